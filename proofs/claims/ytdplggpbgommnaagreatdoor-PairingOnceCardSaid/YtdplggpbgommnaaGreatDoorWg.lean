/- potentials. -/
import Derived.Test.YtdplggpbgommnaaGreatDoorG01
open Go renaming wpStill_nil->ig,wp_region_still_tail->ic
open Go.IntKind renaming i64->ae
open Go.Lib renaming hid->aa
open Go.Value renaming int->af,ownBlock->bW,slice->ag
open Go.Value.slice renaming injEq->bU
open Go.World renaming drew->q1
open List renaming drop_succ_cons->gj,drop_zero->BU,getElem?_append_right->ih,range->aw,replicate->aA,take_succ_cons->fl,take_zero->ie
open Nat renaming add_zero->dz,eq_zero_or_pos->et,le_refl->kI,sub_self->kH,zero_le->aW
open Option.some renaming injEq->aC
set_option maxRecDepth 100000
set_option maxHeartbeats 4000000
namespace Go.Proofs.YtdplggpbgommnaaGreatDoor
open Go.RowKit
structure lH(h:Hp)(w:World)(m n:Nat)(F:Nat->Nat->Int)(G i:Nat)(hi:Hp)(wr:World)(hs:List Value):Prop where
 st:St w.heap.size h w hi wr
 own:Ow wr hi w.heap.size 34 1 (ag (some ⟨G,0,none⟩) (m+1) (m+1)) (m+1) (hs++aA (m+1-i) (ag none 0 0))
 enc:aJ (io hi) ((aw i).map fun i=>(aw (n+1)).map (F i)) hs
 len:hs.length=i
structure eW(h:Hp)(w:World)(m n:Nat)(F:Nat->Nat->Int)(G i:Nat)(hi:Hp)(hs:List Value)(g j:Nat)(wr:World):Prop where
 st:St w.heap.size h w hi wr
 own:Ow wr hi w.heap.size 34 1 (ag (some ⟨G,0,none⟩) (m+1) (m+1)) (m+1) (hs++(ag (some ⟨g,0,none⟩) (n+1) (n+1)::aA (m-i) (ag none 0 0)))
 row:Ow wr hi w.heap.size 3 1 (ag (some ⟨g,0,none⟩) (n+1) (n+1)) (n+1) ((hG (F i) (n+1) j).map (af ae))
 ne:g≠G
 enc:aJ (io hi) ((aw i).map fun i=>(aw (n+1)).map (F i)) hs
 len:hs.length=i
theorem lH.cells{h:Hp}{w:World}{m n:Nat}{F:Nat->Nat->Int}{G i:Nat}{ab:Hp}{wr w2:World}{hs:List Value}(p:lH h w m n F G i ab wr hs)(aj:i<m+1)(gr:wr.grownBy w2 none):w2.cell? ⟨G,i,none⟩=some (ag none 0 0)/\w2.frozen? ⟨G,i,none⟩=false:=by
 obtain⟨g',Y,_,_,_,J,O⟩:=(p.own.grown gr (fun _ _ e=>by cases e)).cell (by omega);obtain rfl:G=g':=by simpa using Y
 refine⟨J _ _ ?_,O _⟩;have h':0<m+1-i:=by omega
 rw[ih (by rw[p.len];exact kI _),p.len,kH];simp[h']
theorem lH.start{h:Hp}{w:World}{m n:Nat}{F:Nat->Nat->Int}{G i:Nat}{J:Hp}{wr w2:World}{hs:List Value}(p:lH h w m n F G i J wr hs)(aj:i<m+1)(gr:wr.grownBy w2 none)(st:St w.heap.size h w J w2)(own:Ow w2 J w.heap.size 3 1 (ag (some ⟨wr.heap.size,0,none⟩) (n+1) (n+1)) (n+1) (aA (n+1) (af ae 0))):eW h w m n F G i J hs wr.heap.size 0 (w2.setCell ⟨G,i,none⟩ (ag (some ⟨wr.heap.size,0,none⟩) (n+1) (n+1))):=by
 have Y:=p.own.lt G rfl;have O:wr.heap.size≠G:=by omega
 have ab:=p.own.grown gr (fun _ _ e=>by cases e);refine⟨st.setCell Y.1 (p.own.free G rfl) _,?_,?_,O,p.enc,p.len⟩;·have:=ab.set i (ag (some ⟨wr.heap.size,0,none⟩) (n+1) (n+1)) (by omega);rw[List.set_append_right _ _ (by rw[p.len];exact kI _),p.len,kH,show m+1-i=(m-i)+1 by omega,List.replicate_succ,List.set_cons_zero]at this;exact this
 ·have:(hG (F i) (n+1) 0).map (af ae)=aA (n+1) (af ae 0):=by simp[hG]
  rw[this];exact own.setCell (by simp only[bW,ne_eq,aC];exact O) _
theorem eW.cells{h:Hp}{w:World}{m n:Nat}{F:Nat->Nat->Int}{G i:Nat}{aG:Hp}{hs:List Value}{g j:Nat}{wr:World}(r:eW h w m n F G i aG hs g j wr)(_hi1:i<m+1)(hj:j<n+1):wr.cell? ⟨G,i,none⟩=some (ag (some ⟨g,0,none⟩) (n+1) (n+1))/\wr.cell? ⟨g,j,none⟩=some (af ae 0)/\wr.frozen? ⟨g,j,none⟩=false/\(∀k,k<j->wr.cell? ⟨g,k,none⟩=some (af ae (F i k)))/\G<wr.heap.size/\g<wr.heap.size/\(∀k,k<i->∃b off O,wr.cell? ⟨G,k,none⟩=some (ag (some ⟨b,off,none⟩) (n+1) O)/\∀q,q<n+1->wr.cell? ⟨b,off+q,none⟩=some (af ae (F k q))):=by
 obtain⟨g',ab,_,ao,_,ak,_⟩:=r.own.cell (by omega);obtain rfl:G=g':=by simpa using ab
 obtain⟨g',ab,_,aB,_,am,aL⟩:=r.row.cell (by omega);obtain rfl:g=g':=by simpa using ab
 refine⟨ak _ _ ?_,am _ _ (D4 _ _ _ hj),aL _,fun k J=>am _ _ (D3 _ _ _ _ J),ao,aB,fun k J=> ?_⟩;·rw[ih (by rw[r.len];exact kI _),r.len,kH];rfl
 ·obtain⟨a,⟨ad,O,rfl,ax⟩,ha⟩:=r.enc.at 1 io.len k (by simpa using J);have Y:=ha 0 (by omega);simp only[Nat.mul_one,dz,List.getElem?_cons_zero]at Y;obtain⟨aM,c1,aj,_,hc⟩:=ax.open;simp only[bU,true_and]at aj;obtain⟨rfl,rfl⟩:=aj;obtain⟨b,off,rfl,_,hc⟩:=hc wr r.st.I (by simp);simp only[List.getElem_map,List.getElem_range,List.length_map,List.length_range]at Y hc;refine⟨b,off,O,ak _ _ (by rw[List.getElem?_append_left (by rw[r.len];exact J)];exact Y),fun q aJ=> ?_⟩;have:=hc q (by simpa using aJ);simpa using this
theorem eW.put{h:Hp}{w:World}{m n:Nat}{F:Nat->Nat->Int}{G i:Nat}{J:Hp}{hs:List Value}{g j:Nat}{wr:World}(r:eW h w m n F G i J hs g j wr)(hj:j<n+1)(u:Int)(Y:u=F i j):eW h w m n F G i J hs g (j+1) (wr.setCell ⟨g,j,none⟩ (af ae u)):=by subst Y;have O:=r.row.lt g rfl;refine⟨r.st.setCell O.1 (r.row.free g rfl) _,r.own.setCell (by simp only[bW,ne_eq,aC];exact fun e=>r.ne e.symm) _,?_,r.ne,r.enc,r.len⟩;have:=r.row.set j (af ae (F i j)) (by omega);rw[D2 _ _ _ hj]at this;exact this
theorem eW.skip{h:Hp}{w:World}{m n:Nat}{F:Nat->Nat->Int}{G i:Nat}{J:Hp}{hs:List Value}{g j:Nat}{wr:World}(r:eW h w m n F G i J hs g j wr)(hj:j<n+1)(O:F i j=0):eW h w m n F G i J hs g (j+1) wr:=⟨r.st,r.own,by rw[D5 _ _ _ hj O];exact r.row,r.ne,r.enc,r.len⟩
theorem eW.drew{h:Hp}{w:World}{m n:Nat}{F:Nat->Nat->Int}{G i:Nat}{J:Hp}{hs:List Value}{g j:Nat}{wr:World}(r:eW h w m n F G i J hs g j wr):eW h w m n F G i J hs g j wr.drew:=
 ⟨r.st.drew,r.own.drew,r.row.drew,r.ne,r.enc,r.len⟩
theorem eW.drewN{h:Hp}{w:World}{m n:Nat}{F:Nat->Nat->Int}{G i:Nat}{J:Hp}{hs:List Value}{g j:Nat}{wr:World}(r:eW h w m n F G i J hs g j wr)(q:Nat):eW h w m n F G i J hs g j (wr.drewN q):=
 ⟨r.st.drewN q,r.own.drewN q,r.row.drewN q,r.ne,r.enc,r.len⟩
theorem eW.done{h:Hp}{w:World}{m n:Nat}{F:Nat->Nat->Int}{J i:Nat}{ak:Hp}{hs:List Value}{g:Nat}{wr:World}(r:eW h w m n F J i ak hs g (n+1) wr)(hn:n<=400)(hF:∀j,j<n+1->aG (F i j))(aM:i<m+1):∃am,lH h w m n F J (i+1) am wr (hs++[ag (some ⟨g,0,none⟩) (n+1) (n+1)]):=by
 obtain⟨h',aB,O,Y,ab⟩:=r.row.giveUp r.st.I (by omega);have aL:=r.row.lt g rfl;refine⟨h',⟨r.st.below,aB,Hp.le_trans r.st.le O,fun b aj=> ?_,r.st.base⟩,?_,?_,by simp[r.len]⟩;·rw[Y b (fun g' G e=>by simp only[bW,aC]at G;omega)];exact r.st.aI b aj
 ·have:=r.own.keep (w':=wr) (h':=h') (fun _ _=>rfl) (fun g' G=>Y g' (fun k ao e=>by simp only[bW,aC]at G ao;exact r.ne (by omega)))
  rw[show m+1-(i+1)=m-i by omega,List.append_assoc];exact this
 ·rw[show aw (i+1)=aw i++[i]from List.range_succ,List.map_append];refine(r.enc.mono fun _ _ q=>q.mono O).append (aJ.one ⟨some ⟨g,0,none⟩,n+1,by simp,?_⟩);rw[D6]at ab;refine⟨by simpa using ab,fun q ax=> ?_⟩;obtain⟨j,hj,rfl⟩:=List.mem_map.1 ax;exact hF j (List.mem_range.1 hj)
theorem JZ(h:Hp)(w:World)(G:ao h w)(bz va vc:Value)(drop add:List Int)(cost:List (List Int))(hd:Ints h bz drop)(ha:Ints h va add)(hc:gP h vc cost)(hp:lS drop add cost):Calls Tryz.prog 189 #[bz,va,vc] w fun e w'=>∃v,e= .returned v/\∃h',St w.heap.size h w h' w'/\gP h' v (iN drop add cost):=by
 have bE:=aa G;have am:=aa hp;have cQ:=hp.dl;have a8:=hp.al;obtain⟨ad,cu,rfl,cS,aO⟩:=hd.open;obtain⟨cg,ca,rfl,cE,Y⟩:=ha.open;obtain⟨ac,ct,rfl,cN,aN⟩:=hc.open;have bC:=aa (fun w' G=>aO w' G);have a2:=aa (fun w' G=>Y w' G);have bB:=aa (fun w' G=>aN w' G);clear hd ha hc aO Y aN G hp;go_in;go_wp2_with(at_make;refine jk sZ rfl _ _ rfl (St.refl bE.out) ae ae _ _ (drop.length+1) rfl rfl (by go_num) (by go_num) (by omega) ?_;intro w1 bv a1 bO;rw[j7]at a1);have bG:Hid (lH h w drop.length add.length (pt drop add cost) w.heap.size 0 h w1 []):=⟨bv,by simpa using a1,rfl,rfl⟩
 clear bv a1 bO;have hF:Hid (∀i j,0<=pt drop add cost i j/\pt drop add cost i j<=((i+j:Nat):Int)*1048576):=mK am.out;have cf:Hid (∀i j,pt drop add cost (i+1) (j+1)=_):=fun i j=>rfl;generalize a5:pt drop add cost=F at*;have aM:=aa a5;clear a5;go_loopw[18] (fun i wr=>∃(aZ:Nat) (G:Hp) (hs:List Value),aZ<=drop.length+1/\i=af ae aZ/\lH h w drop.length add.length F w.heap.size aZ G wr hs) (fun i _=>drop.length+1-(intOf i).toNat);case atStart=>exact⟨0,h,[],aW _,rfl,bG.out⟩
 case round=>
  obtain⟨i,G,hs,cV,rfl,P⟩:=hrel;obtain⟨aJ,rfl⟩:∃aJ:World,aJ=wr:=⟨_,rfl⟩
  have ax:=aa P;by_cases ab:i<drop.length+1
  ·have cC:=(P.own.lt w.heap.size rfl).2;clear P;rcases et i with rfl|cU
   ·rw[show((0:Nat):Int)=0 from rfl];go_wp2_with(at_make;refine jk fP rfl _ _ rfl ax.out.st ae ae _ _ (add.length+1) rfl rfl (by go_num) (by go_num) (by omega) ?_;intro w2 aP J aB;rw[j7]at J;obtain⟨aQ,bN⟩:=ax.out.cells ab aB;have aV:=aa (ax.out.start ab aB aP J);have bT:=(J.lt aJ.heap.size rfl).2;clear aP J aB);go_loopw[33] (fun s wr=>∃(j:Nat),j<=add.length+1/\s=af ae j/\eW h w drop.length add.length F w.heap.size (0) G hs aJ.heap.size j wr) (fun i _=>add.length+1-(intOf i).toNat);case atStart=>exact⟨0,aW _,rfl,aV.out⟩
    case round=>
     obtain⟨j,bX,rfl,R⟩:=hrel;have R':=aa R;by_cases aY:j<add.length+1
     ·obtain⟨bI,c1,c2,c3,c4,c5,-⟩:=R.cells ab aY;have aS:=aa c3;clear R c3;rcases et j with rfl|bV
      ·go_wp2_with fail;go_roundw;case rel=>exact⟨1,by omega,by go_num,R'.out.skip (by omega) (by rw[<-aM.out];rfl)⟩
       case measure=>simp[intOf]
      ·obtain⟨j,rfl⟩:∃k,j=k+1:=⟨j-1,by omega⟩
       have d0:=aS.out j (by omega);obtain⟨bH,oa,rfl,bR,Y⟩:=a2.out wr R'.out.st.gq (by omega);have bJ:=Y j (by omega);have b1:=hF.out 0 j;have b2:=am.out.a add[j] (by simp);clear Y;have bq:ae.wrap (j:Int)=j:=bA (by omega);have bY:(0:Int)<=(j:Int):=by omega
       have bZ:(j:Int)<(add.length:Int)+1:=by omega
       have b0:(j:Int)<(add.length:Int):=by omega
       have cc:(0:Int)<=(j:Int)+1:=by omega
       have b9:ae.wrap (F 0 j+add[j])=F 0 j+add[j]:=bA (by omega);go_wp2_with fail;refine ic 20 (by kernel_rfl) (by kernel_rfl) ?_;simp only[fl,ie,gj,BU];change wpStill _ _ (q1 _) (fun a'=>wpList _ _ _ _ a' (q1 _)) _ _;repeat still_step
       refine ig ?_;go_wp2_with fail;go_roundw;case rel=>exact⟨j+1+1,by omega,by go_num,R'.out.drew.put (by omega) _ (by rw[<-aM.out];show _=lR add (j+1);rw[lR,vL _ _ _ (by omega)];rfl)⟩
       case measure=>simp[intOf];omega
     ·obtain rfl:j=add.length+1:=by omega
      obtain⟨aX,O⟩:=R.done a8 (fun j hj=>by have:=hF.out 0 j;unfold aG;omega) ab;go_wp2_with fail;go_roundw;case rel=>exact⟨1,aX,_,by omega,by go_num,O⟩
      case measure=>simp[intOf]
   ·obtain⟨i,rfl⟩:∃k,i=k+1:=⟨i-1,by omega⟩
    rw[show((i+1:Nat):Int)=(i:Int)+1 from by omega];go_wp2_with(at_make;refine jk fP rfl _ _ rfl ax.out.st ae ae _ _ (add.length+1) rfl rfl (by go_num) (by go_num) (by omega) ?_;intro w2 aP J aB;rw[j7]at J;obtain⟨aQ,bN⟩:=ax.out.cells ab aB;have aV:=aa (ax.out.start ab aB aP J);have bT:=(J.lt aJ.heap.size rfl).2;clear aP J aB);go_loopw[33] (fun s wr=>∃(j:Nat),j<=add.length+1/\s=af ae j/\eW h w drop.length add.length F w.heap.size (i+1) G hs aJ.heap.size j wr) (fun i _=>add.length+1-(intOf i).toNat);case atStart=>exact⟨0,aW _,rfl,aV.out⟩
    case round=>
     obtain⟨j,bX,rfl,R⟩:=hrel;have R':=aa R;by_cases aY:j<add.length+1
     ·obtain⟨bI,c1,c2,c3,c4,c5,a4⟩:=R.cells ab aY;have aS:=aa c3;obtain⟨co,op,cp,cB,aQ⟩:=a4 i (by omega);have aT:=aa aQ;obtain⟨cn,cY,rfl,cG,aO⟩:=bC.out wr R'.out.st.gq (by omega);have bJ:=aO i (by omega);have b2:=am.out.d drop[i] (by simp);clear aO aQ R c3 a4;have bq:ae.wrap (i:Int)=i:=bA (by omega);have bY:(0:Int)<=(i:Int):=by omega
      have bZ:(i:Int)<(drop.length:Int)+1:=by omega
      have b0:(i:Int)<(drop.length:Int):=by omega
      have cc:(0:Int)<=(i:Int)+1:=by omega
      rcases et j with rfl|bV
      ·have d0:=aT.out 0 (by omega);have b1:=hF.out i 0;have b9:ae.wrap (F i 0+drop[i])=F i 0+drop[i]:=bA (by omega);simp only[dz]at d0;go_wp2_with fail;refine ic 20 (by kernel_rfl) (by kernel_rfl) ?_;simp only[fl,ie,gj,BU];change wpStill _ _ (q1 _) (fun a'=>wpList _ _ _ _ a' (q1 _)) _ _;repeat still_step
       refine ig ?_;go_wp2_with fail;go_roundw;case rel=>exact⟨1,by omega,by go_num,R'.out.drew.put (by omega) _ (by rw[<-aM.out];show _=nN (pt drop add cost i) (drop.getD i 0) add (cost.getD i []) 0;rw[nN,vL _ _ _ (by omega)])⟩
       case measure=>simp[intOf]
      ·obtain⟨j,rfl⟩:∃k,j=k+1:=⟨j-1,by omega⟩
       have d0:=aT.out (j+1) (by omega);have cw:=aT.out j (by omega);have c3:=aS.out j (by omega);have b1:=hF.out i (j+1);have ci:=hF.out i j;have cj:=hF.out (i+1) j;obtain⟨bH,oa,rfl,bR,Y⟩:=a2.out wr R'.out.st.gq (by omega);have cz:=Y j (by omega);have b3:=am.out.a add[j] (by simp);have bS:=am.out.cl;obtain⟨cm,cX,rfl,cF,aN⟩:=bB.out wr R'.out.st.gq (by omega);obtain⟨ar,cr,bL,bp⟩:=aN i (by omega);have bm:=am.out.rl i (by omega);obtain⟨ch,cv,bg,-,bd⟩:=bp.open;simp only[bU,true_and]at bg;obtain⟨rfl,rfl⟩:=bg;obtain⟨cq,or,rfl,cK,ba⟩:=bd wr R'.out.st.gq (by omega);have cA:=ba j (by omega);have cl:=am.out.c i (by omega) (cost[i][j]) (by simp);have aL:Hid (F (i+1) (j+1)=if 0<=cost[i][j]then min (min (F i (j+1)+drop[i]) (F (i+1) j+add[j])) (F i j+cost[i][j])else min (F i (j+1)+drop[i]) (F (i+1) j+add[j])):=by unfold Hid;rw[<-aM.out];rw[oU,vL drop i _ (by omega),vL add j _ (by omega),vL cost i _ (by omega),vL cost[i] j _ (by omega)]
       rw[bm]at bL;have cM:i<cost.length:=by omega
       generalize cost[i][j]=x at*;generalize drop[i]=ak at*;generalize add[j]=aj at*;clear ba bd aN Y bp;clear bm;clear bS;have r1:ae.wrap (j:Int)=j:=bA (by omega);have r2:(0:Int)<=(j:Int):=by omega
       have cZ:(j:Int)<(add.length:Int)+1:=by omega
       have c6:(j:Int)<(add.length:Int):=by omega
       have c8:(0:Int)<=(j:Int)+1:=by omega
       have cd:ae.wrap (F i (j+1)+ak)=F i (j+1)+ak:=bA (by omega);have ce:ae.wrap (F (i+1) j+aj)=F (i+1) j+aj:=bA (by omega);go_wp2_with fail;go_quiet(fail);have a9:(if F (i+1) j+aj<F i (j+1)+ak then F (i+1) j+aj else F i (j+1)+ak)=min (F i (j+1)+ak) (F (i+1) j+aj):=by split<;>omega
       rw[a9];have a3:=aL.out;have cD:0<=min (F i (j+1)+ak) (F (i+1) j+aj)/\min (F i (j+1)+ak) (F (i+1) j+aj)<=2000000000:=by omega
       clear a9 aL;generalize min (F i (j+1)+ak) (F (i+1) j+aj)=M at*;have aL:=aa a3;clear a3 cd ce bq r1;by_cases hx:0<=x
       ·go_wp2_with fail;go_roundw;case rel=>exact⟨j+1+1,by omega,by go_num,(R'.out.drewN _).put (by omega) _ (by rw[aL.out,if_pos hx];split<;>omega)⟩
        case measure=>simp[intOf];omega
       ·go_wp2_with fail;go_roundw;case rel=>exact⟨j+1+1,by omega,by go_num,(R'.out.drewN _).put (by omega) _ (by rw[aL.out,if_neg (by omega)])⟩
        case measure=>simp[intOf];omega
     ·obtain rfl:j=add.length+1:=by omega
      obtain⟨aX,O⟩:=R.done a8 (fun j hj=>by have:=hF.out (i+1) j;unfold aG;omega) ab;go_wp2_with fail;go_roundw;case rel=>exact⟨i+1+1,aX,_,by omega,by go_num,O⟩
      case measure=>simp[intOf];omega
  ·obtain rfl:i=drop.length+1:=by omega
   have O:=ax.out;clear P;go_wp2_with fail;go_ret;refine⟨_,rfl,_,O.st.fr,hs,?_,?_⟩;·have:=O.own.sl (by omega);simpa[iN]using this
   ·have:=O.enc.mono fun _ _ r=>r.mono (Hp.gQ (B:=w.heap.size) O.st.I);rw[<-aM.out]at this;exact this
end Go.Proofs.YtdplggpbgommnaaGreatDoor
