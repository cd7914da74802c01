/- pairing.equal: what has equal keys is paired. -/
import Derived.Test.YtdplggpbgommnaaGreatDoorG11
open Go renaming wpStill_nil->ig,wp_region_still_tail->ic
open Go.Addr.mk renaming injEq->cx
open Go.IntKind renaming i64->ae
open Go.Lib renaming hid->aa
open Go.Proofs.Tryz renaming prog->ai,underlying169->vC
open Go.RowKit.Below renaming heap_setCell->cH,refl->aD
open Go.Value renaming int->af,ownBlock->bW,slice->ag,string->ah
open Go.Value.slice renaming injEq->bU
open Go.World renaming drew->q1
open List renaming drop_succ_cons->gj,drop_zero->BU,filter_cons->qG,filter_nil->BT,foldl_append->dH,foldl_cons->dK,foldl_nil->fk,getD_eq_getElem?_getD->bb,getElem?_eq_getElem->aE,getElem_append_left->mf,getElem_mem->aK,getElem_set->mg,length_append->cI,length_cons->bF,length_nil->cL,length_set->KW,map_set->hL,range_succ->dx,range->aw,take_succ_cons->fl,take_zero->ie
open Nat renaming le_of_lt->kB,le_refl->kI,lt_of_lt_of_le->bK,zero_le->aW
open Option renaming bind_some->j2,getD_some->BW,map_some->fa
open Option.some renaming injEq->aC,inj->aU
set_option maxRecDepth 100000
set_option maxHeartbeats 8000000
namespace Go.Proofs.YtdplggpbgommnaaGreatDoor
open Go.RowKit
abbrev dX:=Int×Int×ByteArray
def oL(key:Option dX)(W:World)(e:Ending)(W':World):Prop:=∃p b,e= .returned (.tuple #[dA p,.bool b])/\key=(if b=true then some p else none)/\Below W.heap.size W W'
def iH(i:Nat):List Value:=[af ae i]
theorem oM{K α:Type}[DecidableEq K]{l:List (K×α)}{p:K}{v:α}{q:K×α}(h:q∈aY l p v):q∈l\/q=(p,v):=by
 unfold aY at h;cases hp:bm l p with
 |none=>rw[hp]at h;simpa using h
 |some k=>rw[hp]at h;exact List.mem_or_eq_of_mem_set h
def jN(h:Hp)(v:Value)(x:List Nat):Prop:=Sl h v x.length 1 (x.flatMap iH)/\∃a cap,v=ag a x.length cap/\x.length<=cap
structure im(h:Hp)(w:World)(r:Nat)(rest:List (dX×List Nat))(l:List (dX×Value)):Prop where
 map:aS dA w r l
 keys:l.map (·.1)=rest.map (·.1)
 sl:∀i (hi:i<l.length) (hr:i<rest.length),jN h (l[i]).2 (rest[i]).2
theorem Ow.CO{w:World}{h:Hp}{B:Nat}{v:Value}{x:List Nat}(o:Ow w h B 3 1 v x.length (x.flatMap iH))(hx:x.length<=140737488355328):jN (h.fr B w) v x:=by
 refine⟨o.sl hx,?_⟩;rcases o.row with⟨h1,⟨rfl,G⟩|⟨g',O,Y,rfl,ab,am,J,aj,ak,ao⟩⟩;·exact⟨_,_,by rw[G],by omega⟩
 ·exact⟨_,_,rfl,J⟩
theorem jN.nil(h:Hp)(a:Option Addr)(G:Nat):jN h (ag a 0 G) []:=⟨Sl.nil _ _ _ _,_,_,rfl,aW _⟩
theorem jN.tail{h:Hp}{a:Option Addr}{n G i:Nat}{x:List Nat}(s:jN h (ag a n G) (i::x)){w:World}(aG:ao h w):n=x.length+1/\x.length+1<=G/\∃b off,a=some ⟨b,off,none⟩/\b<w.heap.size/\w.cell? ⟨b,off,none⟩=some (af ae i)/\∀a',(x=[]\/a'=some ⟨b,off+1,none⟩)->jN h (ag a' x.length (G-1)) x:=by
 obtain⟨O,aL,c1,Y,hc⟩:=s;simp only[bU,bF]at Y;obtain⟨rfl,rfl,rfl⟩:=Y;simp only[bF]at O hc;have aJ:=O;obtain⟨b,off,rfl,ak,aB⟩:=O.cells aG (by omega);refine⟨rfl,hc,b,off,rfl,ak,aB 0 _ rfl,fun a' ha=> ?_⟩;rcases ha with rfl|rfl;·exact jN.nil _ _ _
 ·refine⟨?_,_,_,rfl,by omega⟩;obtain⟨aM,c2,ab,h1,h2,aj⟩:=aJ;rcases aj with aj|⟨b',aO,cs,J,am,ax⟩;·omega
  ·simp only[bU]at ab;rw[<-ab.1]at J;simp only[aC,cx,and_true]at J;obtain⟨rfl,rfl⟩:=J;refine⟨_,_,rfl,by omega,by simpa[iH]using h2,.inr ⟨b,off+1,cs,rfl,am,fun k aN=> ?_⟩⟩;have:=ax (k+1) (by omega);rw[show off+1+k=off+(k+1) by omega,this];simp[iH]
theorem cY.giveUp{w:World}{h:Hp}{r:Nat}{B:Nat}{rest:List (dX×List Nat)}{l:List (dX×Value)}(g:cY dA 3 1 iH w h B r rest l){m:Nat}(J:∀q∈rest,q.2.length<=m)(hm:m<=140737488355328):im (h.fr B w) w r rest l:=
 ⟨g.map,g.keys,fun i G hr=>(g.own i G hr).CO (Nat.le_trans (J _ (aK hr)) hm)⟩
theorem im.len{w:World}{h:Hp}{r:Nat}{rest:List (dX×List Nat)}{l:List (dX×Value)}(g:im h w r rest l):l.length=rest.length:=by have:=congrArg List.length g.keys;simpa using this
theorem im.row{w:World}{h:Hp}{r:Nat}{rest:List (dX×List Nat)}{l:List (dX×Value)}(g:im h w r rest l)(p:dX):jN h ((aT l p).getD (ag none 0 0)) ((aT rest p).getD []):=by
 unfold aT;rw[oN g.keys p];cases hp:bm rest p with
 |none=>exact jN.nil _ _ _
 |some k=>have G:=fv hp;have J:=g.len;simp only[j2,aE G,aE (show k<l.length by omega),fa,BW];exact g.sl k (by omega) G
theorem im.keep{w w1:World}{h:Hp}{r:Nat}{rest:List (dX×List Nat)}{l:List (dX×Value)}(g:im h w r rest l)(hm:w1.heap[r]? =w.heap[r]?):im h w1 r rest l:=⟨g.map.keep hm,g.keys,g.sl⟩
theorem im.put{w w1:World}{h:Hp}{r:Nat}{rest:List (dX×List Nat)}{l:List (dX×Value)}(g:im h w r rest l)(p:dX)(x:List Nat)(v:Value)(Y:aS dA w1 r (aY l p v))(ax:jN h v x):im h w1 r (aY rest p x) (aY l p v):=by
 have aB:=g.len;have am:=oN g.keys p;cases hp:bm l p with
 |none=>
  have aj:bm rest p=none:=by rw[<-am];exact hp
  have G:aY l p v=l++[(p,v)]:=by unfold aY;rw[hp]
  have ab:aY rest p x=rest++[(p,x)]:=by unfold aY;rw[aj]
  rw[G]at Y;rw[G,ab];refine⟨Y,by simp[g.keys],fun i O ao=> ?_⟩;simp only[cI,bF,cL]at O;by_cases ak:i<l.length;·rw[mf ak,mf (by omega)];exact g.sl i ak (by omega)
  ·obtain rfl:i=l.length:=by omega
   have:(rest++[(p,x)])[l.length]'ao=(p,x):=by rw[List.getElem_append_right (by omega)];simp[aB]
   rw[this];simpa using ax
 |some k=>
  have aj:bm rest p=some k:=by rw[<-am];exact hp
  have G:aY l p v=l.set k (p,v):=by unfold aY;rw[hp]
  have ab:aY rest p x=rest.set k (p,x):=by unfold aY;rw[aj]
  rw[G]at Y;rw[G,ab];refine⟨Y,by rw[hL,hL,g.keys],fun i O ao=> ?_⟩;simp only[KW]at O;rw[mg,mg];by_cases J:k=i;·rw[if_pos J,if_pos J];exact ax
  ·rw[if_neg J,if_neg J];exact g.sl i O (by omega)
theorem wM(O:List Int)(ok:Nat->Option dX)(n:Nat):∀q∈iK O ok n,∀x∈q.2,x<n:=by
 unfold iK;induction n with
 |zero=>intro q G;simp at G
 |succ n J=>
  rw[dx,dH,dK,fk];generalize(aw n).foldl (fw O ok) []=rest at J;intro q G x hx;unfold fw at G;have low:∀q∈rest,∀x∈q.2,x<n+1:=fun q G x hx=>by have:=J q G x hx;omega
  split at G
  ·rename_i k _;split at G
   ·rcases oM G with h1|rfl;·exact low q h1 x hx
    ·simp only[List.mem_append,List.mem_singleton]at hx;rcases hx with hx|rfl
     ·unfold aT at hx;cases hp:bm rest k with
      |none=>rw[hp]at hx;simp at hx
      |some m=>rw[hp]at hx;simp only[j2,aE (fv hp),fa,BW]at hx;exact low _ (aK (fv hp)) x hx
     ·omega
   ·exact low q G x hx
  ·exact low q G x hx
theorem CP{h:Hp}{w J O:World}(G:ao h w)(bl:Below w.heap.size w J)(g:J.grownBy O (some w.heap.size)):ao h O:=
 G.keep fun b c hc=>by have Y:=cD (G b c hc);have:=bl.size;exact(g.block b (by omega) (fun e=>by have:=aU e;omega)).trans (bl.block b Y)
theorem CQ{w G:World}{c:List Value}{T:TypeId}{r:Nat}(g:(w.alloc (.cells c.toArray T)).grownBy G (some r))(hr:r<w.heap.size):∀j u,c[j]? =some u->G.cell? ((⟨w.heap.size,0,none⟩:Addr).add j)=some u:=fun j u J=>by rw[Addr.add_lit,World.cell?_of_block (a:=⟨w.heap.size,0+j,none⟩) (g.block w.heap.size (by simp) (fun e=>by have:=aU e;omega)),World.cell?_alloc_at _ _ _ _ rfl];simpa using J
theorem CR{w1 G:World}{K:Obj}{c:List Value}{T:TypeId}{r:Nat}(g:((w1.alloc K).alloc (.cells c.toArray T)).grownBy G (some r))(hr:r<w1.heap.size):∀j u,c[j]? =some u->G.cell? ((⟨w1.heap.size+1,0,none⟩:Addr).add j)=some u:=by have:=CQ (w:=w1.alloc K) g (by simp;omega);simpa using this
theorem s8(h:Hp)(w:World)(dm:ao h w){B:Nat}(_hB:B<=w.heap.size)(a4 a3:Value)(G new:List Int)(aJ:Ow w h B 3 1 a4 G.length (aV G))(on:Ow w h B 3 1 a3 new.length (aV new))(ap:cj a4 a3)(eX:G.length<=1000000)(eW:new.length<=1000000)(bJ fn:Nat)(cS cQ:Array Value)(eb:∀args w,(callFunc bJ args).run ai w= .ok (.enter bJ args) w)(eD:∀args w,(callFunc fn args).run ai w= .ok (.enter fn args) w)(a8:World->Prop)(g0:a8 w)(cX:∀W cM,a8 W->Tu (fun k=>a4.ownBlock=some k\/a3.ownBlock=some k) W cM->a8 cM)(ok Y:Nat->Option dX)(dn:∀i:Nat,i<G.length->∀W,a8 W->Calls ai bJ (#[af ae i]++cS) W (oL (ok i) W))(hn:∀i:Nat,i<new.length->∀W,a8 W->Calls ai fn (#[af ae i]++cQ) W (oL (Y i) W)):Calls ai 51 #[a4,a3,.func (.func bJ) #[] cS,.func (.func fn) #[] cQ] w fun e w'=>e= .returned (.tuple #[])/\Ow w' h B 3 1 a4 G.length (aV (dh G new ok Y).1)/\Ow w' h B 3 1 a3 new.length (aV (dh G new ok Y).2)/\Tu (fun k=>a4.ownBlock=some k\/a3.ownBlock=some k) w w':=by
 have bY:=aa dm;have bg:=aa aJ;have bG:=aa on;have dZ:=aa dn;have dY:=aa hn;have cw:=aa cX;have ct:=aa g0;have dG:=aa ap;have eM:= @run_makeMap ai;obtain⟨ce,a1,rfl⟩:=aJ.shape;obtain⟨an,aZ,rfl⟩:=on.shape;clear dm aJ on dn hn cX g0 ap;go_in;go_wp2_with fail;have B0:Hid (Below w.heap.size w (w.alloc (.map #[] 0))):=(aD _ _).alloc (kI _) _;have cu:Hid (cY dA 3 1 iH (w.alloc (.map #[] 0)) h (w.heap.size+1) w.heap.size ([]:List (dX×List Nat)) []):=cY.start _ _ _;go_loopw[21] (fun i wr=>∃(j:Nat) (l:List (dX×Value)),j<=G.length/\i=af ae j/\cY dA 3 1 iH wr h (w.heap.size+1) w.heap.size ((aw j).foldl (fw G ok) []) l/\(∀q∈(aw j).foldl (fw G ok) [],q.2.length<=j)/\Below w.heap.size w wr) (fun i _=>G.length-(intOf i).toNat);case atStart=>exact⟨0,[],aW _,rfl,cu.out,fun q ab=>by simp at ab,B0.out⟩
 case round=>
  obtain⟨j,l,eL,rfl,g,a2,bl⟩:=hrel;clear B0 cu;by_cases hj:j<G.length
  ·have dv:=bg.out.same bl;obtain⟨go,rfl,-,ej,-,bp,-⟩:=dv.cell (by omega);have d0:wr.cell? ⟨go,j,none⟩=some (af ae (ge G j)):=bp j _ (by simp[aV,ge,bb,aE hj]);have dB:Tu (fun k=>(ag (some ⟨go,0,none⟩) G.length a1).ownBlock=some k\/(ag an new.length aZ).ownBlock=some k) w wr:=(Tu.refl _ _).below bl;have bT:=aa (dZ.out j hj wr (cw.out w wr ct.out dB));have eA:(0:Int)<=(j:Int):=by omega
   have bz:(j:Int)<(G.length:Int):=by omega
   have aN:=aa g;have a5:=aa bl;have ba:=aa a2;have eC:=eb;clear g bl a2 dv bp dB;go_wp2_with fail;refine bT.out.mono ?_;rintro e w1 ⟨⟨k1,k2,k3⟩,cf,rfl,ak,b1⟩;have aj:Hid ((aw (j+1)).foldl (fw G ok) []=fw G ok ((aw j).foldl (fw G ok) []) j):=by unfold Hid;rw[dx,dH,dK,fk]
   generalize(aw j).foldl (fw G ok) []=rest at aN ba aj;have aM:=aa (a5.out.trans (b1.mono a5.out.size));have am:=aa (aN.out.tu ((Tu.refl (fun _=>False) wr).below b1) id (fun k q=>q.elim));have ez:=b1.size;have em:w.heap.size<w1.heap.size:=bK aN.out.map.lt ez;simp only[dA];cases cf
   ·have aB:Hid (ok j=none):=ak;have O:Hid (fw G ok rest j=rest):=by unfold Hid fw;rw[aB.out]
    clear ak b1 d0;go_wp2_with fail;go_roundw;case rel=>exact⟨j+1,l,by omega,by go_num,by rw[aj.out,O.out];exact am.out.tu ((Tu.refl (fun _=>False) w1).alloc _) id (fun k q=>q.elim),fun q ab=>by rw[aj.out,O.out]at ab;have:=ba.out q ab;omega,aM.out.alloc aM.out.size _⟩
    case measure=>simp[intOf];omega
   ·have aB:Hid (ok j=some (k1,k2,k3)):=ak;clear ak b1 d0;by_cases bq:ge G j<0
    ·have O:Hid (fw G ok rest j=aY rest (k1,k2,k3) ((aT rest (k1,k2,k3)).getD []++[j])):=by
      unfold Hid fw;rw[aB.out];have:G.getD j 0<0:=by simpa[ge]using bq
      simp only[if_pos this]
     have aG:Hid (cY dA 3 1 iH ((w1.alloc (.cells #[af ae k1,af ae k2,ah k3] 107)).alloc (.cells #[af ae j] 3)) h (w.heap.size+1) w.heap.size rest l):=am.out.tu (((Tu.refl (fun _=>False) w1).alloc _).alloc _) id (fun k q=>q.elim);have bS:Hid (Below w.heap.size w ((w1.alloc (.cells #[af ae k1,af ae k2,ah k3] 107)).alloc (.cells #[af ae j] 3))):=(aM.out.alloc aM.out.size _).alloc (by have:=aM.out.size;simp;omega) _
     have a2:((aT rest (k1,k2,k3)).getD []).length<=j:=by
      unfold aT;cases hp:bm rest (k1,k2,k3)with
      |none=>simp
      |some q=>simp only[j2,aE (fv hp),fa,BW];exact ba.out _ (aK _)
     go_wp2_with(first
      |(refine CS qP rfl 169 _ _ rfl aG.out.map (k1,k2,k3) 34 (ag none 0 0) vC (fun W=>by kernel_rfl) rfl rfl ?_;intro dC dt aQ;have d9:=aa ((aG.out.row (k1,k2,k3)).grown aQ (fun b c6 e=>aG.out.wN (by omega) _ b c6 (aU e).symm));have d5:=aa (CP bY.out bS.out aQ);have co:=aa (bS.out.grown aQ (bS.out.size) (fun k e=>Nat.le_of_eq (aU e)));have d6:=aa dt;have dR:=aa aQ;have dP:Hid (∀dp u,([af ae j]:List Value)[dp]? =some u->dC.cell? ((⟨w1.heap.size+1,0,none⟩:Addr).add dp)=some u):=(CR (w1:=w1) (K:= .cells #[af ae k1,af ae k2,ah k3] 107) (c:=[af ae j]) (T:=3) aQ (by omega));have ea:w.heap.size+1<=dC.heap.size:=(by have:=aQ.size;simp at this;omega);clear dt aQ)
      |(at_builtin;refine ft fP rfl _ _ rfl (St.dN (B:=w.heap.size+1) d5.out ea) _ ((aT rest (k1,k2,k3)).getD []).length (((aT rest (k1,k2,k3)).getD []).flatMap iH) rfl d9.out ⟨w1.heap.size+1,0,none⟩ 1 1 [af ae j] rfl rfl dP.out (cm _ rfl) (by omega) ?_;intro bz e7 ey dw bL cN;have d8:=aa dw;have dT:=aa bL;have dN:=aa cN;have d7:=aa (d6.out.keep (bL.block w.heap.size (by omega) (fun e=>aG.out.wN (by omega) _ _ e.symm rfl)));have cq:=aa (co.out.grown bL co.out.size (fun k e=>by have:=((aG.out.row (k1,k2,k3)).lt k e).1;omega));clear ey dw bL cN)
      |(refine CT (enc:=dA) rfl 169 _ _ _ rfl d7.out (jO l (k1,k2,k3)) (qQ l (k1,k2,k3) _) bz rfl rfl rfl ?_;intro e8 du cg;have dU:=aa (aG.out.append (by omega) (k1,k2,k3) j bz dR.out dT.out cg d8.out dN.out (by rw[<-CU l (k1,k2,k3) (ag none 0 0) bz];exact du));have dO:=aa (cq.out.grown cg cq.out.size (fun k e=>Nat.le_of_eq (aU e)));clear du cg))
     go_roundw
     case rel=>exact⟨j+1,_,by omega,by go_num,by rw[aj.out,O.out];exact dU.out,fun q ab=>by
      rw[aj.out,O.out]at ab;rcases oM ab with er|rfl;·have:=ba.out q er;omega
      ·simp;omega,dO.out⟩
     case measure=>simp[intOf];omega
    ·have O:Hid (fw G ok rest j=rest):=by
      unfold Hid fw;rw[aB.out];have:¬G.getD j 0<0:=by simpa[ge]using bq
      simp only[if_neg this]
     go_wp2_with fail;go_roundw;case rel=>exact⟨j+1,l,by omega,by go_num,by rw[aj.out,O.out];exact am.out.tu ((Tu.refl (fun _=>False) w1).alloc _) id (fun k q=>q.elim),fun q ab=>by rw[aj.out,O.out]at ab;have:=ba.out q ab;omega,aM.out.alloc aM.out.size _⟩
     case measure=>simp[intOf];omega
  ·obtain rfl:j=G.length:=by omega
   have bB:Hid (iK G ok G.length=(aw G.length).foldl (fw G ok) []):=rfl;generalize ep:(aw G.length).foldl (fw G ok) []=rest at g a2 bB;have cA:=bY.out.below bl;have bV:Hid (im (h.fr (w.heap.size+1) wr) wr w.heap.size rest l):=g.giveUp a2 (by omega);have aL:=aa (bg.out.same bl);have aO:=aa (bG.out.same bl);have a5:=aa bl;clear g a2 bl ep;have bX:Hid (∀q∈iK G ok G.length,∀x∈q.2,x<G.length):=wM G ok G.length;rw[bB.out]at bX;have b0:Hid (ao (h.fr (w.heap.size+1) wr) wr):=cA.fr;have bC:Hid (∀b,b<=w.heap.size->(h.fr (w.heap.size+1) wr) b=h b):=fun b c6=>by unfold Hp.fr;rw[if_pos (by omega)]
   have rn:h w.heap.size=none:=bI bY.out _ (kI _);generalize h.fr (w.heap.size+1) wr=h2 at bV b0 bC;have dQ:Hid (dh G new ok Y=((aw new.length).foldl (gx Y) (rest,G,new)).2):=by unfold Hid dh;rw[bB.out]
   clear cA bB;go_wp2_with fail;go_loopw[48] (fun i bA=>∃(j:Nat) (l2:List (dX×Value)) (J:List (dX×List Nat)×List Int×List Int),j<=new.length/\i=af ae j/\(aw j).foldl (gx Y) (rest,G,new)=J/\im h2 bA w.heap.size J.1 l2/\(∀q∈J.1,∀x∈q.2,x<G.length)/\Ow bA h B 3 1 (ag ce G.length a1) G.length (aV J.2.1)/\Ow bA h B 3 1 (ag an new.length aZ) new.length (aV J.2.2)/\ao h2 bA/\Tu (fun k=>(ag ce G.length a1).ownBlock=some k\/(ag an new.length aZ).ownBlock=some k) w bA) (fun i _=>new.length-(intOf i).toNat);case atStart=>exact⟨0,l,_,aW _,rfl,rfl,bV.out,bX.out,aL.out,aO.out,b0.out,(Tu.refl _ _).below a5.out⟩
   case round=>
    obtain⟨j,l2,J,eK,rfl,bR,g,ch,aJ,on,cn,bv⟩:=hrel;clear bV bX aL aO b0 a5;by_cases en:j<new.length
    ·obtain⟨gn,rfl,-,ej,-,bp,ei⟩:=on.cell (by omega);have eN:J.2.2.length=new.length:=by have:=on.len;simpa[aV]using this
     have eO:J.2.1.length=G.length:=by have:=aJ.len;simpa[aV]using this
     have d0:wr.cell? ⟨gn,j,none⟩=some (af ae (ge J.2.2 j)):=bp j _ (by simp[aV,ge,bb,aE (show j<J.2.2.length by omega)]);have bT:=aa (dY.out j en wr (cw.out w wr ct.out bv));have eA:(0:Int)<=(j:Int):=by omega
     have bz:(j:Int)<(new.length:Int):=by omega
     have aN:=aa g;have a9:=aa ch;have d2:=aa aJ;have d1:=aa on;have d4:=aa bv;have dW:=aa cn;have d3:=aa bR;clear g ch aJ on cn bv bR bp ei;go_wp2_with fail;refine bT.out.mono ?_;rintro e w1 ⟨⟨k1,k2,k3⟩,cf,rfl,ak,b1⟩;have aj:Hid ((aw (j+1)).foldl (gx Y) (rest,G,new)=gx Y J j):=by unfold Hid;rw[dx,dH,dK,fk,d3.out]
     have b2:Below wr.heap.size wr (w1.alloc (.cells #[af ae k1,af ae k2,ah k3] 107)):=b1.alloc b1.size _;have cG:Tu (fun _=>False) wr (w1.alloc (.cells #[af ae k1,af ae k2,ah k3] 107)):=(Tu.refl _ _).below b2;have am:=aa (aN.out.keep (b2.block _ aN.out.map.lt));have aL:=aa (d2.out.same b2);have aO:=aa (d1.out.same b2);have bd:=aa (dW.out.below b2);have bH:=aa (d4.out.below b2);have em:w.heap.size<w1.heap.size:=bK aN.out.map.lt b1.size;simp only[dA];cases cf
     ·have aB:Hid (Y j=none):=ak;have O:Hid (gx Y J j=J):=by unfold Hid gx;rw[aB.out]
      clear ak b1 b2 cG d0;go_wp2_with fail;go_roundw;case rel=>exact⟨j+1,l2,J,by omega,by go_num,by rw[aj.out,O.out],am.out,a9.out,aL.out,aO.out,bd.out,bH.out⟩
      case measure=>simp[intOf];omega
     ·have aB:Hid (Y j=some (k1,k2,k3)):=ak;clear ak b1 cG;by_cases bq:0<=ge J.2.2 j
      ·have O:Hid (gx Y J j=J):=by
        unfold Hid gx;rw[aB.out];have:0<=J.2.2.getD j 0:=by simpa[ge]using bq
        simp only[if_pos this]
       clear d0 b2;go_wp2_with fail;go_roundw;case rel=>exact⟨j+1,l2,J,by omega,by go_num,by rw[aj.out,O.out],am.out,a9.out,aL.out,aO.out,bd.out,bH.out⟩
       case measure=>simp[intOf];omega
      ·have bO:¬0<=J.2.2.getD j 0:=by simpa[ge]using bq
       have bE:=(am.out.map.look qP (k1,k2,k3) 169 34 (ag none 0 0) vC (fun W=>by kernel_rfl)).1;have b9:=(aS.look qP (w:=(w1.alloc (.cells #[af ae k1,af ae k2,ah k3] 107)).drew) (am.out.map.keep rfl) (k1,k2,k3) 169 34 (ag none 0 0) vC (fun W=>by kernel_rfl)).1;have aX:=am.out.row (k1,k2,k3);generalize hx:(aT J.1 (k1,k2,k3)).getD []=x at aX;generalize(aT l2 (k1,k2,k3)).getD (ag none 0 0)=e6 at bE b9 aX;have bZ:=aa hx;clear hx;obtain⟨a,aP,rfl,cl⟩:=aX.2;simp only[dA]at bE b9;cases x with
       |nil=>
        have O:Hid (gx Y J j=J):=by unfold Hid gx;rw[aB.out];simp only[if_neg bO,bZ.out]
        simp only[cL]at bE cl;clear d0 b2 aX bO;go_wp2_with fail;go_roundw;case rel=>exact⟨j+1,l2,J,by omega,by go_num,by rw[aj.out,O.out],am.out,a9.out,aL.out,aO.out,bd.out,bH.out⟩
        case measure=>simp[intOf];omega
       |cons i x=>
        have O:Hid (gx Y J j=(aY J.1 (k1,k2,k3) x,J.2.1.set i (j:Int),J.2.2.set j (i:Int))):=by unfold Hid gx;rw[aB.out];simp only[if_neg bO,bZ.out]
        have cz:∀y∈i::x,y<G.length:=fun y hy=>by
         have:=bZ.out;unfold aT at this;cases hp:bm J.1 (k1,k2,k3)with
         |none=>rw[hp]at this;simp at this
         |some m=>rw[hp]at this;simp only[j2,aE (fv hp),fa,BW]at this;exact a9.out _ (aK (fv hp)) y (by rw[this];exact hy)
        have eJ:i<G.length:=cz i (by simp);obtain⟨hn,ed,b,off,rfl,eE,eB,cc⟩:=aX.tail bd.out;obtain⟨go,rfl,-,eI,eH,-,-⟩:=aL.out.cell (by omega);have dk:go≠gn:=fun e=>dG.out go rfl (by rw[e];rfl);have el:go≠w.heap.size:=by have:=(bg.out.lt go rfl).2;omega
        have eo:gn≠w.heap.size:=by have:=(bG.out.lt gn rfl).2;omega
        obtain⟨V,cZ,bN⟩:∃V,jN h2 V x/\V=(if aP=1 then ag (some ⟨b,off,none⟩) x.length (aP-1)else ag (some ⟨b,off+1,none⟩) x.length (aP-1)):=by
         refine⟨_,?_,rfl⟩;by_cases h1:aP=1;·rw[if_pos h1];exact cc _ (.inl (List.eq_nil_of_length_eq_zero (by omega)))
         ·rw[if_neg h1];exact cc _ (.inr rfl)
        obtain⟨ax,eP,dr,g2⟩:∃ax,(Instr.mapUpdate 169 (.map (some w.heap.size)) (.agg #[af ae k1,af ae k2,ah k3]) V).run ai (w1.alloc (.cells #[af ae k1,af ae k2,ah k3] 107)).drew= .ok () ax/\aS dA ax w.heap.size (aY l2 (k1,k2,k3) V)/\(w1.alloc (.cells #[af ae k1,af ae k2,ah k3] 107)).drew.grownBy ax (some w.heap.size):=
         ⟨_,aS.put qP (w:=(w1.alloc (.cells #[af ae k1,af ae k2,ah k3] 107)).drew) (am.out.map.keep rfl) (k1,k2,k3) V 169 34 vC⟩
        simp only[bF]at bE b9 cl;have cE:=aa (aL.out.drew.grown g2 (fun q ab e=>by have h1:go=q:=aU ab;have h2:w.heap.size=q:=aU e;omega));have cC:=aa (aO.out.drew.grown g2 (fun q ab e=>by have h1:gn=q:=aU ab;have h2:w.heap.size=q:=aU e;omega));obtain⟨go',cV,-,eG,-,c9,di⟩:=cE.out.cell (by omega);obtain rfl:go=go':=by simpa using cV
        obtain⟨ec,cU,-,eF,-,c8,dg⟩:=cC.out.cell (by omega);obtain rfl:gn=ec:=by simpa using cU
        have e9:ax.cell? ⟨go,i,none⟩=some (af ae (ge J.2.1 i)):=c9 i _ (by simp[aV,ge,bb,aE (show i<J.2.1.length by omega)]);have fb:ax.cell? ⟨gn,j,none⟩=some (af ae (ge J.2.2 j)):=c8 j _ (by simp[aV,ge,bb,aE (show j<J.2.2.length by omega)]);have fc:=di i;have fd:=dg j;have ek:gn≠go:=fun e=>dk e.symm;have cF:Hid (Ow ((ax.setCell ⟨go,i,none⟩ (af ae j)).setCell ⟨gn,j,none⟩ (af ae i)) h B 3 1 (ag (some ⟨go,0,none⟩) G.length a1) G.length (aV (J.2.1.set i (j:Int)))):=by have:=(cE.out.set i (af ae j) (by omega)).setCell (p:=⟨gn,j,none⟩) (by simpa[bW]using dk) (af ae i);unfold Hid;unfold aV at this⊢;rw[hL];exact this
        have cD:Hid (Ow ((ax.setCell ⟨go,i,none⟩ (af ae j)).setCell ⟨gn,j,none⟩ (af ae i)) h B 3 1 (ag (some ⟨gn,0,none⟩) new.length aZ) new.length (aV (J.2.2.set j (i:Int)))):=by have:=(cC.out.setCell (p:=⟨go,i,none⟩) (by simpa[bW]using ek) (af ae j)).set j (af ae i) (by omega);unfold Hid;unfold aV at this⊢;rw[hL];exact this
        have cd:Tu (fun k=>k=w.heap.size\/k=go\/k=gn) (w1.alloc (.cells #[af ae k1,af ae k2,ah k3] 107)).drew ((ax.setCell ⟨go,i,none⟩ (af ae j)).setCell ⟨gn,j,none⟩ (af ae i)):=
         (((Tu.refl _ _).grown g2 (fun k e=> .inl (.inl (aU e).symm))).set (p:=⟨go,i,none⟩) (.inl (.inr (.inl rfl))) _).set (p:=⟨gn,j,none⟩) (.inl (.inr (.inr rfl))) _
        have cB:Hid (ao h2 ((ax.setCell ⟨go,i,none⟩ (af ae j)).setCell ⟨gn,j,none⟩ (af ae i))):=cd.I (bd.out.drew) (fun k ak=>by
         rcases ak with rfl|rfl|rfl;·rw[bC.out _ (kI _)];exact rn
         ·rw[bC.out _ (kB (bg.out.lt k rfl).2)];exact bg.out.free k rfl
         ·rw[bC.out _ (kB (bG.out.lt k rfl).2)];exact bG.out.free k rfl)
        have cK:Hid (Tu (fun k=>(ag (some ⟨go,0,none⟩) G.length a1).ownBlock=some k\/(ag (some ⟨gn,0,none⟩) new.length aZ).ownBlock=some k) w ((ax.setCell ⟨go,i,none⟩ (af ae j)).setCell ⟨gn,j,none⟩ (af ae i))):=bH.out.drew.step cd (fun k ak=>by
         rcases ak with rfl|rfl|rfl;·exact .inr (kI _)
         ·exact .inl (.inl rfl)
         ·exact .inl (.inr rfl))
        have aG:Hid (im h2 ((ax.setCell ⟨go,i,none⟩ (af ae j)).setCell ⟨gn,j,none⟩ (af ae i)) w.heap.size (aY J.1 (k1,k2,k3) x) (aY l2 (k1,k2,k3) V)):=by have:=im.put (am.out.keep (w1:=(w1.alloc (.cells #[af ae k1,af ae k2,ah k3] 107)).drew) rfl) (k1,k2,k3) x V dr cZ;refine this.keep ?_;rw[cH _ _ _ _ (fun e=>eo e.symm),cH _ _ _ _ (fun e=>el e.symm)]
        have cv:Hid (∀q∈aY J.1 (k1,k2,k3) x,∀y∈q.2,y<G.length):=fun q ab y hy=>by
         rcases oM ab with h1|rfl;·exact a9.out q h1 y hy
         ·exact cz y (by simp[hy])
        have eY:((x.length:Int)+1==0)=false:=by simp;omega
        have eZ:¬(x.length:Int)+1=0:=by omega
        have e0:(0:Int)<(x.length:Int)+1:=by omega
        have e1:(1:Int)<=(x.length:Int)+1:=by omega
        have e2:(x.length:Int)+1<=(aP:Int):=by omega
        have e3:(1:Int)<=(aP:Int):=by omega
        have e4:(0:Int)<=(i:Int):=by omega
        have e5:(i:Int)<(G.length:Int):=by omega
        clear cd c9 c8 di dg aX cc cZ dr g2 cV cU hn ed cl bO d0 b2;by_cases ci:aP=1
        ·rw[if_pos ci]at bN;subst ci;subst bN;go_wp2_with fail;refine ic 6 (by kernel_rfl) (by kernel_rfl) ?_;simp only[fl,ie,gj,BU];change wpStill _ _ (q1 _) (fun a'=>wpList _ _ _ _ a' (q1 _)) _ _;repeat still_step
         refine ig ?_;go_wp2_with fail;go_roundw;case rel=>exact⟨j+1,_,_,by omega,by go_num,by rw[aj.out,O.out],aG.out,cv.out,cF.out,cD.out,cB.out,cK.out⟩
         case measure=>simp[intOf];omega
        ·rw[if_neg ci]at bN;subst bN;go_wp2_with fail;refine ic 6 (by kernel_rfl) (by kernel_rfl) ?_;simp only[fl,ie,gj,BU];change wpStill _ _ (q1 _) (fun a'=>wpList _ _ _ _ a' (q1 _)) _ _;repeat still_step
         refine ig ?_;go_wp2_with fail;go_roundw;case rel=>exact⟨j+1,_,_,by omega,by go_num,by rw[aj.out,O.out],aG.out,cv.out,cF.out,cD.out,cB.out,cK.out⟩
         case measure=>simp[intOf];omega
    ·obtain rfl:j=new.length:=by omega
     have hf:dh G new ok Y=J.2:=by rw[dQ.out,bR]
     have dD:Hid (Ow wr h B 3 1 (ag ce G.length a1) G.length (aV (dh G new ok Y).1)):=by unfold Hid;rw[hf];exact aJ
     have dE:Hid (Ow wr h B 3 1 (ag an new.length aZ) new.length (aV (dh G new ok Y).2)):=by unfold Hid;rw[hf];exact on
     have dF:=aa bv;clear aJ on bv hf bR g ch cn;go_wp2_with fail;refine bodyPost_end (results_none rfl _ _ _) rfl ?_;exact⟨rfl,dD.out,dE.out,dF.out⟩
def KX(lB:List Int)(j:Nat):List Nat:=(aw j).filter fun i=>decide (lB.getD i 0<0)
theorem E7(G:List Int)(j:Nat):(KX G j).length<=j:=by have:=List.length_filter_le (fun i=>decide (G.getD i 0<0)) (aw j);simpa[KX]using this
theorem E8(G:List Int)(j:Nat):KX G (j+1)=KX G j++(if G.getD j 0<0 then[j]else[]):=by
 unfold KX;rw[dx,List.filter_append];congr 1;by_cases h:G.getD j 0<0;·simp only[qG,h,decide_true,if_true,BT]
 ·simp only[qG,h,decide_false,Bool.false_eq_true,if_false,BT]
theorem wo(h:Hp)(w:World)(aG:ao h w){B:Nat}(v:Value)(G:List Int)(ak:Ow w h B 3 1 v G.length (aV G))(a8:G.length<=1000000):Calls ai 101 #[v] w fun e w'=>∃v',e= .returned v'/\Ow w' h w.heap.size 3 1 v' (dp G).length ((dp G).flatMap iH)/\Below w.heap.size w w':=by
 have aN:=aa aG;have aQ:=aa ak;obtain⟨aY,a1,rfl⟩:=ak.shape;clear aG ak;go_in;go_wp2_with fail;go_loopw[3,8] (fun s i wr=>∃(j:Nat),j<=G.length/\i=af ae j/\Ow wr h w.heap.size 3 1 s (KX G j).length ((KX G j).flatMap iH)/\Below w.heap.size w wr) (fun _ i _=>G.length-(intOf i).toNat);case atStart=>exact⟨0,aW _,rfl,by simpa[KX]using Ow.nil w h w.heap.size 3 1,aD _ _⟩
 case round=>
  obtain⟨j,a4,rfl,os,bl⟩:=hrel;have a5:=E7 G j;by_cases hj:j<G.length
  ·have am:=aQ.out.same bl;obtain⟨go,rfl,-,a3,-,aj,-⟩:=am.cell (by omega);have d0:wr.cell? ⟨go,j,none⟩=some (af ae (ge G j)):=aj j _ (by simp[aV,ge,bb,aE hj]);have a9:(0:Int)<=(j:Int):=by omega
   have aX:(j:Int)<(G.length:Int):=by omega
   have ax:=aa (E8 G j);have O:=aa os;have J:=aa bl;have aO:=aa (aN.out.below bl);have Y:ge G j=G.getD j 0:=by simp[ge]
   by_cases aJ:ge G j<0
   ·have ab:Hid (KX G (j+1)=KX G j++[j]):=by unfold Hid;rw[ax.out,if_pos (by rw[<-Y];exact aJ)]
    clear os bl am aj Y;obtain⟨aZ,a2,rfl⟩:=O.out.shape;go_wp2_with(at_builtin;refine ft fP rfl _ _ rfl (St.dN (B:=w.heap.size) (aO.out.alloc _) (by have:=J.out.size;simp;omega)) _ (KX G j).length ((KX G j).flatMap iH) rfl (O.out.alloc _) ⟨wr.heap.size,0,none⟩ 1 1 [af ae j] rfl rfl (cK _ _ _ _ rfl) (cm _ rfl) (by omega) ?_;intro aX w2 aT aL aB aS;have aP:=aa aL;have aM:=aa ((J.out.alloc J.out.size (.cells #[af ae j] 3)).grown aB (by have:=J.out.size;simp;omega) (fun k e=>(O.out.lt k e).1));clear aT aL aB aS);go_roundw;case rel=>exact⟨j+1,by omega,by go_num,by rw[ab.out,cI,List.flatMap_append];exact aP.out,aM.out⟩
    case measure=>simp[intOf];omega
   ·have ab:Hid (KX G (j+1)=KX G j):=by unfold Hid;rw[ax.out,if_neg (by rw[<-Y];exact aJ),List.append_nil]
    clear os bl am aj Y;go_wp2_with fail;go_roundw;case rel=>exact⟨j+1,by omega,by go_num,by rw[ab.out];exact O.out,J.out⟩
    case measure=>simp[intOf];omega
  ·obtain rfl:j=G.length:=by omega
   have O:=aa os;have J:=aa bl;clear os bl;go_wp2_with fail;go_ret;exact⟨_,rfl,O.out,J.out⟩
inductive eL where
 |om|nm|oa|na
 |ot (i:Nat)|nt (i:Nat)|rs (i:Nat)
structure bp where
 om:List Int
 nm:List Int
 oa:List Int
 na:List Int
 ot:List (List Bool)
 nt:List (List Bool)
 rs:List (List (Int×Int))
 cost:Int
 a7:Int
def dD:eL->TypeId
 | .om| .nm| .oa| .na=>3
 | .ot _| .nt _=>4
 | .rs _=>43
def dE:eL->Nat
 | .rs _=>2
 |_=>1
def cf(s:bp):eL->Nat
 | .om=>s.om.length| .nm=>s.nm.length| .oa=>s.oa.length| .na=>s.na.length
 | .ot i=>(s.ot.getD i []).length
 | .nt i=>(s.nt.getD i []).length
 | .rs i=>(s.rs.getD i []).length
def ch(s:bp):eL->List Value
 | .om=>aV s.om| .nm=>aV s.nm| .oa=>aV s.oa| .na=>aV s.na
 | .ot i=>dZ (s.ot.getD i [])
 | .nt i=>dZ (s.nt.getD i [])
 | .rs i=>(s.rs.getD i []).flatMap bV
structure nW(w:World)(h:Hp)(B:Nat)(V:eL->Value)(s:bp):Prop where
 own:∀k,Ow w h B (dD k) (dE k) (V k) (cf s k) (ch s k)
 apart:∀k k',k≠k'->cj (V k) (V k')
section
variable {w w1:World} {h:Hp} {B:Nat} {V:eL->Value} {s s':bp}
theorem nW.tu{S:Nat->Prop}(r:nW w h B V s)(t:Tu S w w1)(hS:∀k b,(V k).ownBlock=some b->¬S b):nW w1 h B V s:=
 ⟨fun k=>(r.own k).mO t (hS k),r.apart⟩
theorem nW.p6(r:nW w h B V s)(k:eL)(t:Tu (fun b=>(V k).ownBlock=some b) w w1)(o:Ow w1 h B (dD k) (dE k) (V k) (cf s' k) (ch s' k))(G:∀q,q≠k->cf s' q=cf s q/\ch s' q=ch s q):nW w1 h B V s':=by
 refine⟨fun q=> ?_,r.apart⟩;by_cases e:q=k;·subst e;exact o
 ·rw[(G q e).1,(G q e).2];exact(r.own q).mO t fun b J O=>r.apart q k e b J O
end
def eM{α:Type}(l:List (List α))(i j:Nat)(x:α):List (List α):=l.set i ((l.getD i []).set j x)
theorem p7{α:Type}(l:List (List α))(i j:Nat)(x:α)(G:i<l.length):(eM l i j x).getD i []=(l.getD i []).set j x:=by simp[eM,bb,G]
theorem p8{α:Type}(l:List (List α))(i j k:Nat)(x:α)(h:k≠i):(eM l i j x).getD k []=l.getD k []:=by simp[eM,bb,List.getElem?_set_ne (fun e=>h e.symm)]
theorem lW{α:Type}(l:List (List α))(i j k:Nat)(x:α):((eM l i j x).getD k []).length=(l.getD k []).length:=by
 by_cases h:k=i
 ·subst h;by_cases G:k<l.length;·rw[p7 l k j x G,KW]
  ·simp[eM,bb,Nat.not_lt.1 G]
 ·rw[p8 l i j k x h]
def du(s:bp)(m n:Nat)(t k:Nat):bp:=
 {s with rs:=eM s.rs m n ((t:Int),(k:Int)),nt:=eM s.nt m n true,ot:=eM s.ot t k true}
def hV(h:Hp)(v:Value)(vals:List Value):Prop:=Sl h v vals.length 1 vals
structure bH(h:Hp)(w:World)(B xb so sn:Nat)(budget:Int)(V:eL->Value)(s:bp):Prop where
 I:ao h w
 rows:nW w h B V s
 aI:∃tv nv dv kv,h so=some #[tv,nv,dv,V .om,V .oa,kv]/\hV h kv ((aw s.ot.length).map fun i=>V (.ot i))
 new:∃tv nv dv kv,h sn=some #[tv,nv,dv,V .nm,V .na,kv]/\hV h kv ((aw s.nt.length).map fun i=>V (.nt i))
 box:∃rv,Has w xb #[.pointer (some ⟨so,0,none⟩),.pointer (some ⟨sn,0,none⟩),af ae budget,rv,af ae s.cost,af ae s.a7]/\hV h rv ((aw s.rs.length).map fun i=>V (.rs i))
 xn:h xb=none
 xr:∀k,(V k).ownBlock≠some xb
theorem hV.at{h:Hp}{w:World}(ak:ao h w){v:Value}{n:Nat}{f:Nat->Value}(o:hV h v ((aw n).map f)):∃a G,v=ag a n G/\n<=140737488355328/\∀i,i<n->∃b off,a=some ⟨b,off,none⟩/\b<w.heap.size/\w.cell? ⟨b,off+i,none⟩=some (f i)/\h b≠none:=by
 unfold hV at o;simp only[List.length_map,List.length_range]at o;have ax:=o;obtain⟨a,G,rfl,hn⟩:=o.shape;refine⟨a,G,rfl,hn,fun i am=> ?_⟩;obtain⟨b,off,rfl,ab,hc⟩:=o.cells ak (by omega);refine⟨b,off,rfl,ab,hc i _ (by simp[am]),?_⟩;obtain⟨aB,c2,O,_,_,Y⟩:=ax;rcases Y with Y|⟨b',aG,cs,J,aj,_⟩;·omega
 ·simp only[bU]at O;rw[<-O.1]at J;simp only[aC,cx,and_true]at J;rw[J.1,aj];simp
instance:Inhabited Tree:=⟨.node 0 ⟨#[]⟩ [] []⟩
instance:Inhabited cF:=⟨⟨0,0,default⟩⟩
def lG(a b:List Nat)(cost:Nat->Nat->Int)(drop add:Nat->Int)(i j:Nat):Int:=
 if i<a.length then(if j<b.length then cost (a.getD i 0) (b.getD j 0)else drop (a.getD i 0))else if j<b.length then add (b.getD j 0)else 0
def gp(a b:List Nat)(cost:Nat->Nat->Int)(drop add:Nat->Int):List (List Int):=
 (aw (a.length+b.length)).map fun i=>(aw (a.length+b.length)).map fun j=>lG a b cost drop add i j
def oJ(a b:List Nat)(M:List (List Int))(tq:List Int)(s:List Int×List Int)(i:Nat):List Int×List Int:=
 if i<a.length/\0<=ge tq i/\ge tq i<b.length/\gm M i (ge tq i)≠1048576 then(s.1.set (a.getD i 0) (b.getD (ge tq i).toNat 0:Nat),s.2.set (b.getD (ge tq i).toNat 0) (a.getD i 0:Nat))else s
def nC(a b:List Nat)(M:List (List Int))(tq:List Int)(aI new:List Int):List Int×List Int:=(aw (a.length+b.length)).foldl (oJ a b M tq) (aI,new)
def mA(M:List (List Int)):List Int:=((nV M).map (·.tq)).getD []
def eX(aI new:List Int)(cost:Nat->Nat->Int)(drop add:Nat->Int):List Int×List Int:=
 let a:=dp aI;let b:=dp new
 if 40<a.length+b.length then(aI,new)else nC a b (gp a b cost drop add) (mA (gp a b cost drop add)) aI new
def eC(ts:List Tree)(i:Nat):Option dX:=some (0,0,(ts.getD i default).text)
def la(ds:List cF)(i:Nat):Option dX:=some ((ds.getD i default).module,(ds.getD i default).t.kind,(ds.getD i default).t.text)
def km(ds:List cF)(nm:List Int)(j:Nat):Option dX:=
 if 0<=ge nm (ds.getD j default).module then some (ge nm (ds.getD j default).module,(ds.getD j default).t.kind,(ds.getD j default).t.text)else none
def iw(ds:List cF)(i:Nat):Option dX:=some (0,(ds.getD i default).t.kind,(ds.getD i default).t.text)
def hW(a b:List (lU×Value)):Nat:=(a.filter fun q=>(aT b q.1).isSome).length
def iT(a b:List (lU×Value)):Int:=if hW a b=0 then 1048576 else(a.length:Int)+b.length-2*hW a b
def countP(ts:List Tree)(i:Nat):Int:=(bX (ts.getD i default).kids).length
def ix(ds:List cF)(i:Nat):Int:=(ds.getD i default).t.size
def hI(budget:Int)(a b:Tree):Int:=
 if a.kind=b.kind then(if(a.size:Int)+b.size<bS (2*(bE (aO a) (aO b) budget).cost)then 1048576 else(bE (aO a) (aO b) budget).cost)else 1048576
def ea(s:bp)(j:Nat):bp:=if 0<=ge s.nm j then du s j 0 (ge s.nm j).toNat 0 else s
def gX(m n m' n':Nat)(ps:List (Int×Int))(s:bp):bp:=ps.foldl (fun s p=>du s m' (n'+p.2.toNat) m (n+p.1.toNat)) s
def ek(budget:Int)(od nd:List cF)(s:bp)(i:Nat):bp:=
 let d:=od.getD i default
 if ge s.oa i<0 then{s with cost:=bS (s.cost+d.t.size),a7:=bS (s.a7+d.t.size)}
 else
  let e:=nd.getD (ge s.oa i).toNat default;let m:=bE (aO d.t) (aO e.t) budget
  gX d.module d.number e.module e.number m.aR {s with cost:=bS (s.cost+m.cost),a7:=bS (s.a7+m.a7)}
def gF(nd:List cF)(s:bp)(j:Nat):bp:=
 if ge s.na j<0 then{s with cost:=bS (s.cost+(nd.getD j default).t.size),a7:=bS (s.a7+(nd.getD j default).t.size)}else s
structure bq where
 module:Nat
 number:Nat
 size:Nat
 a6:Nat
instance:Inhabited bq:=⟨⟨0,0,0,0⟩⟩
def gw(kn:List ByteArray)(key:ByteArray):Nat×List ByteArray:=match kn.findIdx? fun k=>decide (k=key)with
 |some i=>(i,kn)
 |none=>(kn.length,kn++[key])
section
variable (ck:Int->ByteArray->List Nat->ByteArray)
mutual
def cS(m:Nat):Tree->Nat->List ByteArray->List bq×Nat×List ByteArray
 | .node k s _ ks,n,kn=>
  let r:=bz m ks (n+1) kn;let q:=gw r.2.2 (ck k s r.2.1)
  (⟨m,n,ax ks+1,q.1⟩::r.1,q.1,q.2)
def bz(m:Nat):List Tree->Nat->List ByteArray->List bq×List Nat×List ByteArray
 |[],_,kn=>([],[],kn)
 |t::ts,n,kn=>
  let a:=cS m t n kn;let b:=bz m ts (n+t.size) a.2.2
  (a.1++b.1,a.2.1::b.2.1,b.2.2)
end
def gG(s:List bq×List ByteArray)(d:cF):List bq×List ByteArray:=
 let r:=bz ck d.module d.t.kids (d.number+1) s.2
 (s.1++r.1,r.2.2)
def dk(ds:List cF)(kn:List ByteArray):List bq×List ByteArray:=ds.foldl (gG ck) ([],kn)
end
def fX(tk:List (List Bool))(x:bq):Bool:=(((tk.getD x.module []).drop x.number).take x.size).all fun b=> !b
def gH(g:List (Int×List bq))(t:bq):List (Int×List bq):=if 3<=t.size then aY g t.a6 ((aT g (t.a6:Int)).getD []++[t])else g
def e3(s:List (Int×List bq)×bp)(t:bq):List (Int×List bq)×bp:=
 if t.size<3\/(aT s.1 (t.a6:Int)).getD []=[]\/fX s.2.nt t=false then s
 else match((aT s.1 (t.a6:Int)).getD []).dropWhile fun o=> !fX s.2.ot o with
  |[]=>(aY s.1 t.a6 [],s.2)
  |o::r=>(aY s.1 t.a6 (o::r),(aw t.size).foldl (fun s i=>du s t.module (t.number+i) o.module (o.number+i)) s.2)
def lc(ck:Int->ByteArray->List Nat->ByteArray)(od nd:List cF)(s:bp):bp:=
 let a:=dk ck od [];let b:=dk ck nd a.2
 (b.1.foldl e3 (a.1.foldl gH [],s)).2
end Go.Proofs.YtdplggpbgommnaaGreatDoor
