/- potentials. -/
import Derived.Test.YtdplggpbgommnaaGreatDoorG01
open Go renaming wpStill_nil→ig,wp_region_still_tail→ic
open Go.IntKind renaming i64→ae
open Go.Lib renaming hid→aa
open Go.Value renaming int→af,ownBlock→bW,slice→ag
open Go.Value.slice renaming injEq→bU
open Go.World renaming drew→dd
open List renaming drop_succ_cons→gj,drop_zero→fm,getElem?_append_right→ih,range→aw,replicate→aA,take_succ_cons→fl,take_zero→ie
open Nat renaming add_zero→dz,eq_zero_or_pos→et,le_refl→an,sub_self→kH,zero_le→aW
open Option.some renaming injEq→aC
set_option maxRecDepth 100000
set_option maxHeartbeats 4000000
namespace Go.Proofs.YtdplggpbgommnaaGreatDoor
open Go.RowKit
structure lH(h:Hp)(w:World)(m n:Nat)(F:Nat→Nat→Int)(G i:Nat)(hi:Hp)(wr:World)(hs:List Value):Prop where
 st:St w.heap.size h w hi wr
 own:Ow wr hi w.heap.size 34 1 (ag (some ⟨G,0,none⟩) (m+1) (m+1)) (m+1) (hs++aA (m+1-i) (ag none 0 0))
 enc:aJ (io hi) ((aw i).map fun i=>(aw (n+1)).map (F i)) hs
 len:hs.length=i
structure eW(h:Hp)(w:World)(m n:Nat)(F:Nat→Nat→Int)(G i:Nat)(hi:Hp)(hs:List Value)(g j:Nat)(wr:World):Prop where
 st:St w.heap.size h w hi wr
 own:Ow wr hi w.heap.size 34 1 (ag (some ⟨G,0,none⟩) (m+1) (m+1)) (m+1) (hs++(ag (some ⟨g,0,none⟩) (n+1) (n+1)::aA (m-i) (ag none 0 0)))
 row:Ow wr hi w.heap.size 3 1 (ag (some ⟨g,0,none⟩) (n+1) (n+1)) (n+1) ((hG (F i) (n+1) j).map (af ae))
 ne:g≠G
 enc:aJ (io hi) ((aw i).map fun i=>(aw (n+1)).map (F i)) hs
 len:hs.length=i
theorem lH.cells{h:Hp}{w:World}{m n:Nat}{F:Nat→Nat→Int}{A i:Nat}{ab:Hp}{wr w2:World}{ac:List Value}(p:lH h w m n F A i ab wr ac)(ad:i<m+1)(G:wr.grownBy w2 none):w2.cell? ⟨A,i,none⟩=some (ag none 0 0)∧w2.frozen? ⟨A,i,none⟩=false:=by
 obtain⟨E,Y,_,_,_,M,O⟩:=(p.own.grown G (fun _ _ e=>by cases e)).cell (by omega);obtain rfl:A=E:=by simpa using Y
 refine⟨M _ _ ?_,O _⟩;have h':0<m+1-i:=by omega
 rw[ih (by rw[p.len];exact an _),p.len,kH];simp[h']
theorem lH.start{h:Hp}{w:World}{m n:Nat}{F:Nat→Nat→Int}{A i:Nat}{E:Hp}{wr w2:World}{M:List Value}(p:lH h w m n F A i E wr M)(ad:i<m+1)(O:wr.grownBy w2 none)(st:St w.heap.size h w E w2)(ac:Ow w2 E w.heap.size 3 1 (ag (some ⟨wr.heap.size,0,none⟩) (n+1) (n+1)) (n+1) (aA (n+1) (af ae 0))):eW h w m n F A i E M wr.heap.size 0 (w2.setCell ⟨A,i,none⟩ (ag (some ⟨wr.heap.size,0,none⟩) (n+1) (n+1))):=by
 have Y:=p.own.lt A rfl;have G:wr.heap.size≠A:=by omega
 have ab:=p.own.grown O (fun _ _ e=>by cases e);refine⟨st.setCell Y.1 (p.own.free A rfl) _,?_,?_,G,p.enc,p.len⟩;·have:=ab.set i (ag (some ⟨wr.heap.size,0,none⟩) (n+1) (n+1)) (by omega);rw[List.set_append_right _ _ (by rw[p.len];exact an _),p.len,kH,show m+1-i=(m-i)+1 by omega,List.replicate_succ,List.set_cons_zero]at this;exact this
 ·have:(hG (F i) (n+1) 0).map (af ae)=aA (n+1) (af ae 0):=by simp[hG]
  rw[this];exact ac.setCell (by simp only[bW,ne_eq,aC];exact G) _
theorem eW.cells{h:Hp}{w:World}{m n:Nat}{F:Nat→Nat→Int}{A i:Nat}{aG:Hp}{aL:List Value}{g j:Nat}{wr:World}(r:eW h w m n F A i aG aL g j wr)(_hi1:i<m+1)(hj:j<n+1):wr.cell? ⟨A,i,none⟩=some (ag (some ⟨g,0,none⟩) (n+1) (n+1))∧wr.cell? ⟨g,j,none⟩=some (af ae 0)∧wr.frozen? ⟨g,j,none⟩=false∧(∀k,k<j→wr.cell? ⟨g,k,none⟩=some (af ae (F i k)))∧A<wr.heap.size∧g<wr.heap.size∧(∀k,k<i→∃b M O,wr.cell? ⟨A,k,none⟩=some (ag (some ⟨b,M,none⟩) (n+1) O)∧∀q,q<n+1→wr.cell? ⟨b,M+q,none⟩=some (af ae (F k q))):=by
 obtain⟨ab,ac,_,am,_,aj,_⟩:=r.own.cell (by omega);obtain rfl:A=ab:=by simpa using ac
 obtain⟨ab,ac,_,aB,_,ak,aM⟩:=r.row.cell (by omega);obtain rfl:g=ab:=by simpa using ac
 refine⟨aj _ _ ?_,ak _ _ (D4 _ _ _ hj),aM _,fun k G=>ak _ _ (D3 _ _ _ _ G),am,aB,fun k G=> ?_⟩;·rw[ih (by rw[r.len];exact an _),r.len,kH];rfl
 ·obtain⟨a,⟨aO,O,rfl,ao⟩,ax⟩:=r.enc.at 1 io.len k (by simpa using G);have Y:=ax 0 (by omega);simp only[Nat.mul_one,dz,List.getElem?_cons_zero]at Y;obtain⟨aN,c1,ad,_,E⟩:=ao.open;simp only[bU,true_and]at ad;obtain⟨rfl,rfl⟩:=ad;obtain⟨b,M,rfl,_,E⟩:=E wr r.st.I (by simp);simp only[List.getElem_map,List.getElem_range,List.length_map,List.length_range]at Y E;refine⟨b,M,O,aj _ _ (by rw[List.getElem?_append_left (by rw[r.len];exact G)];exact Y),fun q aJ=> ?_⟩;have:=E q (by simpa using aJ);simpa using this
theorem eW.put{h:Hp}{w:World}{m n:Nat}{F:Nat→Nat→Int}{A i:Nat}{E:Hp}{G:List Value}{g j:Nat}{wr:World}(r:eW h w m n F A i E G g j wr)(hj:j<n+1)(u:Int)(O:u=F i j):eW h w m n F A i E G g (j+1) (wr.setCell ⟨g,j,none⟩ (af ae u)):=by subst O;have M:=r.row.lt g rfl;refine⟨r.st.setCell M.1 (r.row.free g rfl) _,r.own.setCell (by simp only[bW,ne_eq,aC];exact fun e=>r.ne e.symm) _,?_,r.ne,r.enc,r.len⟩;have:=r.row.set j (af ae (F i j)) (by omega);rw[D2 _ _ _ hj]at this;exact this
theorem eW.skip{h:Hp}{w:World}{m n:Nat}{F:Nat→Nat→Int}{A i:Nat}{E:Hp}{G:List Value}{g j:Nat}{wr:World}(r:eW h w m n F A i E G g j wr)(hj:j<n+1)(M:F i j=0):eW h w m n F A i E G g (j+1) wr:=⟨r.st,r.own,by rw[D5 _ _ _ hj M];exact r.row,r.ne,r.enc,r.len⟩
theorem eW.drew{h:Hp}{w:World}{m n:Nat}{F:Nat→Nat→Int}{A i:Nat}{E:Hp}{G:List Value}{g j:Nat}{wr:World}(r:eW h w m n F A i E G g j wr):eW h w m n F A i E G g j wr.drew:=
 ⟨r.st.drew,r.own.drew,r.row.drew,r.ne,r.enc,r.len⟩
theorem eW.drewN{h:Hp}{w:World}{m n:Nat}{F:Nat→Nat→Int}{A i:Nat}{E:Hp}{G:List Value}{g j:Nat}{wr:World}(r:eW h w m n F A i E G g j wr)(q:Nat):eW h w m n F A i E G g j (wr.drewN q):=
 ⟨r.st.drewN q,r.own.drewN q,r.row.drewN q,r.ne,r.enc,r.len⟩
theorem eW.done{h:Hp}{w:World}{m n:Nat}{F:Nat→Nat→Int}{E i:Nat}{ad:Hp}{M:List Value}{g:Nat}{wr:World}(r:eW h w m n F E i ad M g (n+1) wr)(aL:n≤400)(hF:∀j,j<n+1→aG (F i j))(aB:i<m+1):∃aj,lH h w m n F E (i+1) aj wr (M++[ag (some ⟨g,0,none⟩) (n+1) (n+1)]):=by
 obtain⟨h',ao,O,Y,ab⟩:=r.row.giveUp r.st.I (by omega);have ax:=r.row.lt g rfl;refine⟨h',⟨r.st.below,ao,Hp.le_trans r.st.le O,fun b ac=> ?_,r.st.base⟩,?_,?_,by simp[r.len]⟩;·rw[Y b (fun G A e=>by simp only[bW,aC]at A;omega)];exact r.st.aI b ac
 ·have:=r.own.U (w':=wr) (h':=h') (fun _ _=>rfl) (fun G A=>Y G (fun k ak e=>by simp only[bW,aC]at A ak;exact r.ne (by omega)))
  rw[show m+1-(i+1)=m-i by omega,List.append_assoc];exact this
 ·rw[show aw (i+1)=aw i++[i]from List.range_succ,List.map_append];refine(r.enc.mono fun _ _ q=>q.mono O).append (aJ.one ⟨some ⟨g,0,none⟩,n+1,by simp,?_⟩);rw[D6]at ab;refine⟨by simpa using ab,fun q am=> ?_⟩;obtain⟨j,hj,rfl⟩:=List.mem_map.1 am;exact hF j (List.mem_range.1 hj)
theorem JZ(h:Hp)(w:World)(A:ao h w)(bG bC bE:Value)(drop add:List Int)(cost:List (List Int))(bd:Ints h bG drop)(a8:Ints h bC add)(ba:gP h bE cost)(aP:lS drop add cost):Calls Tryz.prog 189 #[bG,bC,bE] w fun e w'=>∃v,e= .returned v∧∃h',St w.heap.size h w h' w'∧gP h' v (iN drop add cost):=by
 have bJ:=aa A;have ad:=aa aP;have c9:=aP.dl;have a9:=aP.al;obtain⟨ct,cF,rfl,db,aL⟩:=bd.open;obtain⟨co,ca,rfl,cV,O⟩:=a8.open;obtain⟨cq,cE,rfl,c8,aJ⟩:=ba.open;have bI:=aa (fun w' A=>aL w' A);have a2:=aa (fun w' A=>O w' A);have bH:=aa (fun w' A=>aJ w' A);clear bd a8 ba aL O aJ A aP;go_enter Tryz.func189,Tryz.ntmps189;go_wp2_with(at_make;refine jk sZ rfl _ _ rfl (St.refl bJ.out) ae ae _ _ (drop.length+1) rfl rfl (by go_num) (by go_num) (by omega) ?_;intro w1 bB a1 bV;rw[j7]at a1);have bL:Hid (lH h w drop.length add.length (pt drop add cost) w.heap.size 0 h w1 []):=⟨bB,by simpa using a1,rfl,rfl⟩
 clear bB a1 bV;have hF:Hid (∀i j,0≤pt drop add cost i j∧pt drop add cost i j≤((i+j:Nat):Int)*1048576):=mK ad.out;have cm:Hid (∀i j,pt drop add cost (i+1) (j+1)=_):=fun i j=>rfl;generalize a5:pt drop add cost=F at*;have aB:=aa a5;clear a5;go_loopw[8,9,10,11,18,19,20,21,22,23,24,25,26,27,28,29,30,31,32,33,34,35,36,37,38,39,40,41,42,43,44,45,46,47,48,49,50,51,52,53,54,55,56,57,58,59,60,61,62,63,64,65,66,67,68,69,70,71,72,73,74,75,76,77,78,79,80,81,82,83,84,85,86,87,88,89,90,91,92,93,94,95,96,97,98,99,100,101,102,103,104,105,106,107,108,109,110,111,112,113,114,115,116,117,118,119,120,121,122,123,124,125,126,127,128,129,130,131,132,133,134,135,136,137,138,139,140,141,142,143,144,145,146,147,148,149,150] (fun _ _ _ _ i _ _ _ _ _ _ _ _ _ _ _ _ _ _ _ _ _ _ _ _ _ _ _ _ _ _ _ _ _ _ _ _ _ _ _ _ _ _ _ _ _ _ _ _ _ _ _ _ _ _ _ _ _ _ _ _ _ _ _ _ _ _ _ _ _ _ _ _ _ _ _ _ _ _ _ _ _ _ _ _ _ _ _ _ _ _ _ _ _ _ _ _ _ _ _ _ _ _ _ _ _ _ _ _ _ _ _ _ _ _ _ _ _ _ _ _ _ _ _ _ _ _ _ _ _ _ _ _ _ _ _ _ wr=>∃(aZ:Nat) (A:Hp) (aM:List Value),aZ≤drop.length+1∧i=af ae aZ∧lH h w drop.length add.length F w.heap.size aZ A wr aM) (fun _ _ _ _ i _ _ _ _ _ _ _ _ _ _ _ _ _ _ _ _ _ _ _ _ _ _ _ _ _ _ _ _ _ _ _ _ _ _ _ _ _ _ _ _ _ _ _ _ _ _ _ _ _ _ _ _ _ _ _ _ _ _ _ _ _ _ _ _ _ _ _ _ _ _ _ _ _ _ _ _ _ _ _ _ _ _ _ _ _ _ _ _ _ _ _ _ _ _ _ _ _ _ _ _ _ _ _ _ _ _ _ _ _ _ _ _ _ _ _ _ _ _ _ _ _ _ _ _ _ _ _ _ _ _ _ _ _=>drop.length+1-(intOf i).toNat);case atStart=>exact⟨0,h,[],aW _,rfl,bL.out⟩
 case round=>
  obtain⟨i,A,aM,dg,rfl,P⟩:=hrel;obtain⟨am,rfl⟩:∃am:World,am=wr:=⟨_,rfl⟩
  have aj:=aa P;by_cases Y:i<drop.length+1
  ·have cS:=(P.own.lt w.heap.size rfl).2;clear P;rcases et i with rfl|de
   ·rw[show((0:Nat):Int)=0 from rfl];go_wp2_with(at_make;refine jk fP rfl _ _ rfl aj.out.st ae ae _ _ (add.length+1) rfl rfl (by go_num) (by go_num) (by omega) ?_;intro w2 aN G ak;rw[j7]at G;obtain⟨aO,bT⟩:=aj.out.cells Y ak;have aT:=aa (aj.out.start Y ak aN G);have bZ:=(G.lt am.heap.size rfl).2;clear aN G ak);go_loopw[9,10,11,33,34,35,36,37,38,39,40,41,42,43,44,45,46,47,48,49,50,51,52,53,54,55,56,57,58,59,60,61,62,63,64,65,66,67,68,69,70,71,72,73,74,75,76,77,78,79,80,81,82,83,84,85,86,87,88,89,90,91,92,93,94,95,96,97,98,99,100,101,102,103,104,105,106,107,108,109,110,111,112,113,114,115,116,117,118,119,120,121,122,123,124,125,126,127,128,129,130,131,132,133,134,135,136,137,138,139,140,141,142,143,144,145,146,147,148,149] (fun _ _ _ s _ _ _ _ _ _ _ _ _ _ _ _ _ _ _ _ _ _ _ _ _ _ _ _ _ _ _ _ _ _ _ _ _ _ _ _ _ _ _ _ _ _ _ _ _ _ _ _ _ _ _ _ _ _ _ _ _ _ _ _ _ _ _ _ _ _ _ _ _ _ _ _ _ _ _ _ _ _ _ _ _ _ _ _ _ _ _ _ _ _ _ _ _ _ _ _ _ _ _ _ _ _ _ _ _ _ _ _ _ _ _ _ _ _ _ _ wr=>∃(j:Nat),j≤add.length+1∧s=af ae j∧eW h w drop.length add.length F w.heap.size (0) A aM am.heap.size j wr) (fun _ _ _ i _ _ _ _ _ _ _ _ _ _ _ _ _ _ _ _ _ _ _ _ _ _ _ _ _ _ _ _ _ _ _ _ _ _ _ _ _ _ _ _ _ _ _ _ _ _ _ _ _ _ _ _ _ _ _ _ _ _ _ _ _ _ _ _ _ _ _ _ _ _ _ _ _ _ _ _ _ _ _ _ _ _ _ _ _ _ _ _ _ _ _ _ _ _ _ _ _ _ _ _ _ _ _ _ _ _ _ _ _ _ _ _ _ _ _ _ _=>add.length+1-(intOf i).toNat);case atStart=>exact⟨0,aW _,rfl,aT.out⟩
    case round=>
     obtain⟨j,b9,rfl,R⟩:=hrel;have E:=aa R;by_cases aY:j<add.length+1
     ·obtain⟨bO,c1,c2,c3,c4,c5,-⟩:=R.cells Y aY;have aQ:=aa c3;clear R c3;rcases et j with rfl|b0
      ·go_wp2_with fail;go_roundw;case rel=>exact⟨1,by omega,by go_num,E.out.skip (by omega) (by rw[←aB.out];rfl)⟩
       case measure=>simp[intOf]
      ·obtain⟨j,rfl⟩:∃k,j=k+1:=⟨j-1,by omega⟩
       have aV:=aQ.out j (by omega);obtain⟨bN,oa,rfl,bX,O⟩:=a2.out wr E.out.st.gq (by omega);have bR:=O j (by omega);have b1:=hF.out 0 j;have b2:=ad.out.a add[j] (by simp);clear O;have q1:ae.wrap (j:Int)=j:=bA (by omega);have cd:(0:Int)≤(j:Int):=by omega
       have ce:(j:Int)<(add.length:Int)+1:=by omega
       have cf:(j:Int)<(add.length:Int):=by omega
       have ch:(0:Int)≤(j:Int)+1:=by omega
       have cg:ae.wrap (F 0 j+add[j])=F 0 j+add[j]:=bA (by omega);go_wp2_with fail;refine ic 20 (by kernel_rfl) (by kernel_rfl) ?_;simp only[fl,ie,gj,fm];change wpStill _ _ (dd _) (fun a'=>wpList _ _ _ _ a' (dd _)) _ _;repeat still_step
       refine ig ?_;go_wp2_with fail;go_roundw;case rel=>exact⟨j+1+1,by omega,by go_num,E.out.drew.put (by omega) _ (by rw[←aB.out];show _=lR add (j+1);rw[lR,dj _ _ _ (by omega)];rfl)⟩
       case measure=>simp[intOf];omega
     ·obtain rfl:j=add.length+1:=by omega
      obtain⟨aX,M⟩:=R.done a9 (fun j hj=>by have:=hF.out 0 j;unfold aG;omega) Y;go_wp2_with fail;go_roundw;case rel=>exact⟨1,aX,_,by omega,by go_num,M⟩
      case measure=>simp[intOf]
   ·obtain⟨i,rfl⟩:∃k,i=k+1:=⟨i-1,by omega⟩
    rw[show((i+1:Nat):Int)=(i:Int)+1 from by omega];go_wp2_with(at_make;refine jk fP rfl _ _ rfl aj.out.st ae ae _ _ (add.length+1) rfl rfl (by go_num) (by go_num) (by omega) ?_;intro w2 aN G ak;rw[j7]at G;obtain⟨aO,bT⟩:=aj.out.cells Y ak;have aT:=aa (aj.out.start Y ak aN G);have bZ:=(G.lt am.heap.size rfl).2;clear aN G ak);go_loopw[9,10,11,33,34,35,36,37,38,39,40,41,42,43,44,45,46,47,48,49,50,51,52,53,54,55,56,57,58,59,60,61,62,63,64,65,66,67,68,69,70,71,72,73,74,75,76,77,78,79,80,81,82,83,84,85,86,87,88,89,90,91,92,93,94,95,96,97,98,99,100,101,102,103,104,105,106,107,108,109,110,111,112,113,114,115,116,117,118,119,120,121,122,123,124,125,126,127,128,129,130,131,132,133,134,135,136,137,138,139,140,141,142,143,144,145,146,147,148,149] (fun _ _ _ s _ _ _ _ _ _ _ _ _ _ _ _ _ _ _ _ _ _ _ _ _ _ _ _ _ _ _ _ _ _ _ _ _ _ _ _ _ _ _ _ _ _ _ _ _ _ _ _ _ _ _ _ _ _ _ _ _ _ _ _ _ _ _ _ _ _ _ _ _ _ _ _ _ _ _ _ _ _ _ _ _ _ _ _ _ _ _ _ _ _ _ _ _ _ _ _ _ _ _ _ _ _ _ _ _ _ _ _ _ _ _ _ _ _ _ _ wr=>∃(j:Nat),j≤add.length+1∧s=af ae j∧eW h w drop.length add.length F w.heap.size (i+1) A aM am.heap.size j wr) (fun _ _ _ i _ _ _ _ _ _ _ _ _ _ _ _ _ _ _ _ _ _ _ _ _ _ _ _ _ _ _ _ _ _ _ _ _ _ _ _ _ _ _ _ _ _ _ _ _ _ _ _ _ _ _ _ _ _ _ _ _ _ _ _ _ _ _ _ _ _ _ _ _ _ _ _ _ _ _ _ _ _ _ _ _ _ _ _ _ _ _ _ _ _ _ _ _ _ _ _ _ _ _ _ _ _ _ _ _ _ _ _ _ _ _ _ _ _ _ _ _=>add.length+1-(intOf i).toNat);case atStart=>exact⟨0,aW _,rfl,aT.out⟩
    case round=>
     obtain⟨j,b9,rfl,R⟩:=hrel;have E:=aa R;by_cases aY:j<add.length+1
     ·obtain⟨bO,c1,c2,c3,c4,c5,a4⟩:=R.cells Y aY;have aQ:=aa c3;obtain⟨cC,di,cp,cQ,aO⟩:=a4 i (by omega);have aS:=aa aO;obtain⟨cB,od,rfl,cY,aL⟩:=bI.out wr E.out.st.gq (by omega);have bR:=aL i (by omega);have b2:=ad.out.d drop[i] (by simp);clear aL aO R c3 a4;have q1:ae.wrap (i:Int)=i:=bA (by omega);have cd:(0:Int)≤(i:Int):=by omega
      have ce:(i:Int)<(drop.length:Int)+1:=by omega
      have cf:(i:Int)<(drop.length:Int):=by omega
      have ch:(0:Int)≤(i:Int)+1:=by omega
      rcases et j with rfl|b0
      ·have aV:=aS.out 0 (by omega);have b1:=hF.out i 0;have cg:ae.wrap (F i 0+drop[i])=F i 0+drop[i]:=bA (by omega);simp only[dz]at aV;go_wp2_with fail;refine ic 20 (by kernel_rfl) (by kernel_rfl) ?_;simp only[fl,ie,gj,fm];change wpStill _ _ (dd _) (fun a'=>wpList _ _ _ _ a' (dd _)) _ _;repeat still_step
       refine ig ?_;go_wp2_with fail;go_roundw;case rel=>exact⟨1,by omega,by go_num,E.out.drew.put (by omega) _ (by rw[←aB.out];show _=nN (pt drop add cost i) (drop.getD i 0) add (cost.getD i []) 0;rw[nN,dj _ _ _ (by omega)])⟩
       case measure=>simp[intOf]
      ·obtain⟨j,rfl⟩:∃k,j=k+1:=⟨j-1,by omega⟩
       have aV:=aS.out (j+1) (by omega);have cK:=aS.out j (by omega);have c3:=aQ.out j (by omega);have b1:=hF.out i (j+1);have cv:=hF.out i j;have cw:=hF.out (i+1) j;obtain⟨bN,oa,rfl,bX,O⟩:=a2.out wr E.out.st.gq (by omega);have cM:=O j (by omega);have b3:=ad.out.a add[j] (by simp);have bY:=ad.out.cl;obtain⟨cA,dh,rfl,cX,aJ⟩:=bH.out wr E.out.st.gq (by omega);obtain⟨ar,cr,bS,bz⟩:=aJ i (by omega);have bv:=ad.out.rl i (by omega);obtain⟨cu,cG,bq,-,bp⟩:=bz.open;simp only[bU,true_and]at bq;obtain⟨rfl,rfl⟩:=bq;obtain⟨cD,dk,rfl,cZ,bm⟩:=bp wr E.out.st.gq (by omega);have cN:=bm j (by omega);have cz:=ad.out.c i (by omega) (cost[i][j]) (by simp);have ax:Hid (F (i+1) (j+1)=if 0≤cost[i][j]then min (min (F i (j+1)+drop[i]) (F (i+1) j+add[j])) (F i j+cost[i][j])else min (F i (j+1)+drop[i]) (F (i+1) j+add[j])):=by unfold Hid;rw[←aB.out];rw[oU,dj drop i _ (by omega),dj add j _ (by omega),dj cost i _ (by omega),dj cost[i] j _ (by omega)]
       rw[bv]at bS;have c6:i<cost.length:=by omega
       generalize cost[i][j]=x at*;generalize drop[i]=ac at*;generalize add[j]=ab at*;clear bm bp aJ O bz;clear bv;clear bY;have ci:ae.wrap (j:Int)=j:=bA (by omega);have dm:(0:Int)≤(j:Int):=by omega
       have dn:(j:Int)<(add.length:Int)+1:=by omega
       have dp:(j:Int)<(add.length:Int):=by omega
       have dq:(0:Int)≤(j:Int)+1:=by omega
       have cj:ae.wrap (F i (j+1)+ac)=F i (j+1)+ac:=bA (by omega);have cl:ae.wrap (F (i+1) j+ab)=F (i+1) j+ab:=bA (by omega);go_wp2_with fail;go_quiet(fail);have bg:(if F (i+1) j+ab<F i (j+1)+ac then F (i+1) j+ab else F i (j+1)+ac)=min (F i (j+1)+ac) (F (i+1) j+ab):=by split<;>omega
       rw[bg];have a3:=ax.out;have cU:0≤min (F i (j+1)+ac) (F (i+1) j+ab)∧min (F i (j+1)+ac) (F (i+1) j+ab)≤2000000000:=by omega
       clear bg ax;generalize min (F i (j+1)+ac) (F (i+1) j+ab)=cn at*;have ax:=aa a3;clear a3 cj cl q1 ci;by_cases cc:0≤x
       ·go_wp2_with fail;go_roundw;case rel=>exact⟨j+1+1,by omega,by go_num,(E.out.drewN _).put (by omega) _ (by rw[ax.out,if_pos cc];split<;>omega)⟩
        case measure=>simp[intOf];omega
       ·go_wp2_with fail;go_roundw;case rel=>exact⟨j+1+1,by omega,by go_num,(E.out.drewN _).put (by omega) _ (by rw[ax.out,if_neg (by omega)])⟩
        case measure=>simp[intOf];omega
     ·obtain rfl:j=add.length+1:=by omega
      obtain⟨aX,M⟩:=R.done a9 (fun j hj=>by have:=hF.out (i+1) j;unfold aG;omega) Y;go_wp2_with fail;go_roundw;case rel=>exact⟨i+1+1,aX,_,by omega,by go_num,M⟩
      case measure=>simp[intOf];omega
  ·obtain rfl:i=drop.length+1:=by omega
   have M:=aj.out;clear P;go_wp2_with fail;go_ret;refine⟨_,rfl,_,M.st.fr,aM,?_,?_⟩;·have:=M.own.sl (by omega);simpa[iN]using this
   ·have:=M.enc.mono fun _ _ r=>r.mono (Hp.gQ (B:=w.heap.size) M.st.I);rw[←aB.out]at this;exact this
end Go.Proofs.YtdplggpbgommnaaGreatDoor
