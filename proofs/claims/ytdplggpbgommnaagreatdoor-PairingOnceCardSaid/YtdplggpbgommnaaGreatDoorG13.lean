/- assign: move, lower, matrix. -/
import Derived.Test.YtdplggpbgommnaaGreatDoorSb
import Derived.Test.YtdplggpbgommnaaGreatDoorG10
open Array renaming getD_eq_getD_getElem?->sM
open Go renaming bodyPost_ret->aF,execOp->j3,results_none->j0
open Go.Act renaming eval->sL
open Go.IntKind renaming i64->ae
open Go.Lib renaming hid->aa
open Go.Oper renaming wp->jC
open Go.Proofs.Tryz renaming prog->ai
open Go.Result renaming andThen->nj
open Go.RowKit.Below renaming refl->aD
open Go.Value renaming agg->aq,bool->ay,int->af,pointer->az,slice->ag,tuple->bD
open Go.Value.slice renaming injEq->bU
open Go.World renaming cell?_alloc_at->cJ,drew->q1
open List renaming foldl_append->dH,foldl_cons->dK,foldl_nil->fk,getElem?_eq_getElem->aE,getElem_mem->aK,range'_succ->Kp,range'_zero->Kr,range'->mi,range_eq_range'->Kq,range_succ->dx,range->aw,replicate->aA,take_of_length_le->iG
open Nat renaming le_of_lt->kB,le_refl->kI,lt_of_lt_of_le->bK,sub_self->kH,zero_le->aW
open Option.some renaming injEq->aC,inj->aU
open Prod.mk renaming injEq->jg
set_option maxRecDepth 100000
set_option maxHeartbeats 8000000
namespace Go.Proofs.YtdplggpbgommnaaGreatDoor
open Go.RowKit
theorem Fq(tight:Int->Int->Bool)(n:Nat)(G J:Int)(rec:Int->B8->Option (Bool×B8))(r:Int)(j k:Nat)(m:B8):iR tight n G J rec r (mi j (k+1)) m=(if m.used.getD j false=true\/tight r j=false then iR tight n G J rec r (mi (j+1) k) m else if(j:Int)=J then some (true,⟨m.used.set j true,m.tq.set r.toNat j,m.owner.set j r⟩)
  else if G<ge m.owner j then
   if n<=ge m.owner j then none else
   match rec (ge m.owner j) {m with used:=m.used.set j true}with
   |none=>none
   |some (true,m')=>some (true,{m' with tq:=m'.tq.set r.toNat j,owner:=m'.owner.set j r})
   |some (false,m')=>iR tight n G J rec r (mi (j+1) k) m'
  else iR tight n G J rec r (mi (j+1) k) m):=by
 rw[Kp];rfl
theorem Fs{B B':Nat}{h:Hp}{sb:Nat}{c:List (List Int)}{n gu gv gt go gd:Nat}(u v:List Int)(am:Nat)(ao:Int)(aS:gd≠sb)(bd:gd≠gu)(bg:gd≠gv)(aL:gd≠gt)(aG:gd≠go)(bm:h gd=none):∀(f:Nat) (w:World) (r:Nat) (_:r<n) (m m':B8) (b:Bool) (_:cB B h w sb c n gu gv gt go ⟨u,v,m.tq,m.owner⟩) (_:BR w h B' gd n m.used) (_:jS (gD c u v) n am ao f r m=some (b,m')),Calls ai 183 #[az (some ⟨sb,0,none⟩),af ae r,af ae am,af ae ao,ag (some ⟨gd,0,none⟩) n n] w fun e w'=>e= .returned (ay b)/\cB B h w' sb c n gu gv gt go ⟨u,v,m'.tq,m'.owner⟩/\BR w' h B' gd n m'.used/\Tu (fun k=>k=gt\/k=go\/k=gd) w w':=by
 intro f;induction f with
 |zero=>intro w r hr m m' b q G hm;simp[jS]at hm
 |succ f bz=>
  intro w r hr m m' b q G hm;rw[jS,Kq]at hm;have bH:=aa hm;have bI:=aa bz;have Q:=aa q;have bJ:=aa G;obtain⟨ac,bL,x,-⟩:=q.box;have bY:w.cell? ⟨sb,0,none⟩=some (ag ac n bL):=x.cl 0;have zs:=x.lt;have cd:=q.jw;clear hm bz q G x;go_in;go_wp2_with fail;go_loopw[17] (fun i wr=>∃(j:Nat) (J:B8),j<=n/\i=af ae j/\iR (gD c u v) n am ao (jS (gD c u v) n am ao f) r (mi j (n-j)) J=some (b,m')/\cB B h wr sb c n gu gv gt go ⟨u,v,J.tq,J.owner⟩/\BR wr h B' gd n J.used/\Tu (fun k=>k=gt\/k=go\/k=gd) w wr) (fun i _=>n-(intOf i).toNat);case atStart=>exact⟨0,m,aW _,rfl,bH.out,Q.out,bJ.out,Tu.refl _ _⟩
  case round=>
   obtain⟨j,J,b0,rfl,hm,q,G,O⟩:=hrel;clear bY;by_cases hj:j<n
   ·rw[show n-j=(n-(j+1))+1 by omega,Fq]at hm;have d0:=G.get hj;have aT:=G.fz hj;have aZ:=G.lt;obtain⟨a9,ba,x,-⟩:=q.box;have aM:wr.cell? ⟨sb,3,none⟩=some (ag (some ⟨gt,0,none⟩) n n):=x.cl 3;have aN:wr.cell? ⟨sb,4,none⟩=some (ag (some ⟨go,0,none⟩) n n):=x.cl 4;have aP:=x.lt;have ce:(0:Int)<=(j:Int):=by omega
    have cf:(j:Int)<(n:Int):=by omega
    have cg:(0:Int)<=(r:Int):=by omega
    have ch:(r:Int)<(n:Int):=by omega
    by_cases hd:J.used.getD j false=true
    ·rw[hd]at d0;rw[if_pos (.inl hd)]at hm;have A:=aa hm;have Y:=aa q;have ab:=aa G;have aj:=aa O;clear hm q G O x hd;go_wp2_with fail;go_roundw;case rel=>exact⟨j+1,J,by omega,by go_num,A.out,Y.out,ab.out,aj.out⟩
     case measure=>simp[intOf];omega
    ·have aX:J.used.getD j false=false:=by simpa using hd
     rw[aX]at d0;have a5:=aa (yd q r j hr hj);by_cases ax:gD c u v r j=false
     ·rw[if_pos (.inr ax)]at hm;have A:=aa hm;have Y:=aa q;have ab:=aa G;have aj:=aa O;have aQ:=aa ax;clear hm q G O x hd aX ax;go_wp2_with fail;refine a5.out.mono ?_;rintro e w1 ⟨rfl,b1⟩;rw[show gD c u v r j=false from aQ.out];have bC:=aa (Y.out.below b1);have bE:=aa (ab.out.tu ((Tu.refl (fun _=>False) wr).below b1) id);have bG:=aa (aj.out.below b1);clear b1;go_wp2_with fail;go_roundw;case rel=>exact⟨j+1,J,by omega,by go_num,A.out,bC.out,bE.out,bG.out⟩
      case measure=>simp[intOf];omega
     ·have bv:gD c u v r j=true:=by simpa using ax
      rw[if_neg (by rintro(e|e);exact hd e;exact ax e)]at hm;have A:=aa hm;have Y:=aa q;have ab:=aa G;have aj:=aa O;have aQ:=aa bv;clear hm q G O x hd aX ax bv aM aN aP;have b9:gd≠sb:=aS;go_wp2_with fail;refine a5.out.mono ?_;rintro e w1 ⟨rfl,b1⟩;rw[show gD c u v r j=true from aQ.out];have q:=Y.out.below b1;have G:=ab.out.tu ((Tu.refl (fun _=>False) wr).below b1) id;have O:=aj.out.below b1;have hm:=A.out;clear b1 A Y ab aj d0 aT aZ;have d0:=G.get hj;have aT:=G.fz hj;have aZ:=G.lt;obtain⟨a9,ba,x,-⟩:=q.box;have aM:w1.cell? ⟨sb,3,none⟩=some (ag (some ⟨gt,0,none⟩) n n):=x.cl 3;have aN:w1.cell? ⟨sb,4,none⟩=some (ag (some ⟨go,0,none⟩) n n):=x.cl 4;have aP:=x.lt;clear x;by_cases hf:(j:Int)=ao;·rw[if_pos hf]at hm;simp only[aC,jg]at hm;obtain⟨rfl,rfl⟩:=hm;have g1:=kO hf;have aV:=q.rt.get hr;have bN:=q.rt.fz hr;have ak:=q.ro.get hj;have bO:=q.ro.fz hj;simp only at aV ak;have aJ:=q.tu ((Tu.refl (fun k=>k=gd) w1).set (p:=⟨gd,j,none⟩) (.inl rfl) (ay true)) (fun k e=>by subst e;exact⟨bm,aS,bd,bg,aL,aG⟩);have a2:=aa ((aJ.rC hr (j:Int)).rD hj (r:Int));have a3:=aa (((G.put hj true).ne aL r (af ae (j:Int))).ne aG j (af ae (r:Int)));have aB:=aa (((O.set (p:=⟨gd,j,none⟩) (.inl (.inr (.inr rfl))) (ay true)).set (p:=⟨gt,r,none⟩) (.inl (.inl rfl)) (af ae (j:Int))).set (p:=⟨go,j,none⟩) (.inl (.inr (.inl rfl))) (af ae (r:Int)));have a1:=q.bt;have bT:=q.tq;have bZ:=q.rt.lt;have aO:=q.ro.lt;clear q G O aJ hf;go_wp2_with fail;go_ret;simp only;exact⟨rfl,a2.out,a3.out,aB.out⟩
      ·rw[if_neg hf]at hm;have g1:=kK hf;have ak:=q.ro.get hj;simp only at ak;by_cases aY:(am:Int)<ge J.owner j
       ·rw[if_pos aY]at hm;split at hm;case isTrue=>cases hm
        case isFalse bR=>
         obtain⟨o,bp⟩:∃o:Nat,ge J.owner j=o:=⟨(ge J.owner j).toNat,by omega⟩
         have bS:o<n:=by omega
         rw[bp]at hm aY ak;generalize bq:jS (gD c u v) n am ao f o {J with used:=J.used.set j true}=bV at hm;cases bV with
         |none=>cases hm
         |some p=>
          obtain⟨b2,a1⟩:=p;have aJ:=q.tu ((Tu.refl (fun k=>k=gd) w1).set (p:=⟨gd,j,none⟩) (.inl rfl) (ay true)) (fun k e=>by subst e;exact⟨bm,aS,bd,bg,aL,aG⟩);have a8:=aa (bI.out (w1.setCell ⟨gd,j,none⟩ (ay true)) o bS {J with used:=J.used.set j true} a1 b2 aJ (G.put hj true) bq);have bB:=aa (O.set (p:=⟨gd,j,none⟩) (.inl (.inr (.inr rfl))) (ay true));have cc:=q.bo;have bT:go≠gd:=fun e=>aG e.symm;have aO:=q.ro.lt;have a4:=aa hm;clear q G O aJ hf hm bq bR bp;go_wp2_with fail;refine a8.out.mono ?_;rintro e w2 ⟨rfl,q,G,bA⟩;have aB:=bB.out.trans bA;have hm:=a4.out;clear a8 bB a4 d0 aT aZ aM aN aP ak aO bA;cases b2 with
          |true=>simp only[aC,jg]at hm;obtain⟨rfl,rfl⟩:=hm;obtain⟨a9,ba,x,-⟩:=q.box;have aM:w2.cell? ⟨sb,3,none⟩=some (ag (some ⟨gt,0,none⟩) n n):=x.cl 3;have aN:w2.cell? ⟨sb,4,none⟩=some (ag (some ⟨go,0,none⟩) n n):=x.cl 4;have aP:=x.lt;have aV:=q.rt.get hr;have bN:=q.rt.fz hr;have ak:=q.ro.get hj;have bO:=q.ro.fz hj;simp only at aV ak;have bZ:=q.rt.lt;have aO:=q.ro.lt;have k2:=q.bt;have k3:=q.tq;have a2:=aa ((q.rC hr (j:Int)).rD hj (r:Int));have a3:=aa ((G.ne aL r (af ae (j:Int))).ne aG j (af ae (r:Int)));have bX:=aa ((aB.set (p:=⟨gt,r,none⟩) (.inl (.inl rfl)) (af ae (j:Int))).set (p:=⟨go,j,none⟩) (.inl (.inr (.inl rfl))) (af ae (r:Int)));clear q G aB x;go_wp2_with fail;go_ret;simp only;exact⟨rfl,a2.out,a3.out,bX.out⟩
          |false=>
           have A:=aa hm;have Y:=aa q;have ab:=aa G;have aj:=aa aB;clear hm q G aB;go_wp2_with fail;go_roundw;case rel=>exact⟨j+1,a1,by omega,by go_num,A.out,Y.out,ab.out,aj.out⟩
           case measure=>simp[intOf];omega
       ·rw[if_neg aY]at hm;have A:=aa hm;have Y:=aa q;have ab:=aa G;have aj:=aa O;have aO:=q.ro.lt;clear hm q G O hf;go_wp2_with fail;go_roundw;case rel=>exact⟨j+1,J,by omega,by go_num,A.out,Y.out,ab.out,aj.out⟩
        case measure=>simp[intOf];omega
   ·obtain rfl:n=j:=by omega
    rw[kH]at hm;simp only[Kr,iR,aC,jg]at hm;obtain⟨rfl,rfl⟩:=hm;have Y:=aa q;have ab:=aa G;have aj:=aa O;clear q G O;go_wp2_with fail;go_ret;exact⟨rfl,Y.out,ab.out,aj.out⟩
theorem Ft(tight:Int->Int->Bool)(n:Nat)(row:Int)(j k:Nat)(G owner:List Int):kl tight n row (mi j (k+1)) G owner=(if ge owner j<row\/tight row j=false then kl tight n row (mi (j+1) k) G owner else if n<=ge owner j then none else match jS tight n row (ge G row) (n+1) (ge owner j) ⟨(aA n false).set j true,G,owner⟩with
  |none=>none
  |some (true,m)=>some (m.tq.set row.toNat j,m.owner.set j row)
  |some (false,m)=>kl tight n row (mi (j+1) k) m.tq m.owner):=by
 rw[Kp];rfl
theorem Fu{B:Nat}{h:Hp}{w:World}{sb:Nat}{c:List (List Int)}{n gu gv gt go:Nat}{s:fD}(q:cB B h w sb c n gu gv gt go s)(row:Nat)(am:row<n)(s':fD)(hs:mQ c n row s=some s'):Calls ai 144 #[az (some ⟨sb,0,none⟩),af ae row] w fun e w'=>e= .returned (bD #[])/\cB B h w' sb c n gu gv gt go s'/\Tu (fun k=>k=gt\/k=go) w w':=by
 unfold mQ at hs;split at hs;case isFalse=>cases hs
 case isTrue hK=>
 rw[Option.map_eq_some_iff]at hs;obtain⟨p,hp,rfl⟩:=hs;obtain⟨K,aV⟩:∃K:Nat,ge s.tq row=K:=⟨(ge s.tq row).toNat,by omega⟩
 have bV:K<=n:=by omega
 rw[aV,Int.toNat_natCast,Kq]at hp;have bA:=aa hp;have Q:=aa q;obtain⟨ac,bS,x,-⟩:=q.box;have ax:w.cell? ⟨sb,3,none⟩=some (ag (some ⟨gt,0,none⟩) n n):=x.cl 3;have zs:=x.lt;have bZ:=q.jw;have aj:=q.rt.get am;rw[aV]at aj;have bY:=q.rt.lt;have cc:(0:Int)<=(row:Int):=by omega
 have cd:(row:Int)<(n:Int):=by omega
 clear hp q x hK aV;go_in;go_wp2_with fail;go_loopw[15] (fun i wr=>∃(j:Nat) (Y oj:List Int),j<=K/\i=af ae j/\kl (gD c s.u s.v) n row (mi j (K-j)) Y oj=some p/\cB B h wr sb c n gu gv gt go ⟨s.u,s.v,Y,oj⟩/\Tu (fun k=>k=gt\/k=go) w wr) (fun i _=>K-(intOf i).toNat);case atStart=>exact⟨0,s.tq,s.owner,aW _,rfl,bA.out,Q.out,Tu.refl _ _⟩
 case round=>
  obtain⟨j,Y,oj,bX,rfl,hm,q,O⟩:=hrel;clear ax aj;by_cases hj:j<K
  ·rw[show K-j=(K-(j+1))+1 by omega,Ft]at hm;have ab:j<n:=by omega
   obtain⟨aJ,aL,x,-⟩:=q.box;have a1:wr.cell? ⟨sb,0,none⟩=some (ag aJ n aL):=x.cl 0;have ax:wr.cell? ⟨sb,3,none⟩=some (ag (some ⟨gt,0,none⟩) n n):=x.cl 3;have bm:wr.cell? ⟨sb,4,none⟩=some (ag (some ⟨go,0,none⟩) n n):=x.cl 4;have aO:=x.lt;have aM:=q.ro.get ab;have bq:=q.ro.lt;simp only at aM;have b0:(0:Int)<=(j:Int):=by omega
   have b9:(j:Int)<(n:Int):=by omega
   have ce:(j:Int)<(K:Int):=by omega
   clear x;by_cases hr:ge oj j<(row:Int)
   ·rw[if_pos (.inl hr)]at hm;have A:=aa hm;have G:=aa q;have J:=aa O;clear hm q O;go_wp2_with fail;go_roundw;case rel=>exact⟨j+1,Y,oj,by omega,by go_num,A.out,G.out,J.out⟩
    case measure=>simp[intOf];omega
   ·have aT:=aa (yd q row j am ab);by_cases ao:gD c s.u s.v row j=false
    ·rw[if_pos (.inr ao)]at hm;have A:=aa hm;have G:=aa q;have J:=aa O;have aP:=aa ao;clear hm q O ao;go_wp2_with fail;refine aT.out.mono ?_;rintro e w1 ⟨rfl,b1⟩;rw[show gD c s.u s.v row j=false from aP.out];have bv:=aa (G.out.below b1);have bz:=aa (J.out.below b1);clear b1;go_wp2_with fail;go_roundw;case rel=>exact⟨j+1,Y,oj,by omega,by go_num,A.out,bv.out,bz.out⟩
     case measure=>simp[intOf];omega
    ·have a8:gD c s.u s.v row j=true:=by simpa using ao
     rw[if_neg (by rintro(e|e);exact hr e;exact ao e)]at hm;split at hm;case isTrue=>cases hm
     case isFalse bH=>
     obtain⟨o,a4⟩:∃o:Nat,ge oj j=o:=⟨(ge oj j).toNat,by omega⟩
     have bI:o<n:=by omega
     rw[a4]at hm aM hr;generalize a5:jS (gD c s.u s.v) n row (ge Y row) (n+1) o ⟨(aA n false).set j true,Y,oj⟩=bO at hm;cases bO with
     |none=>cases hm
     |some bJ=>
     obtain⟨b2,aX⟩:=bJ;have A:=aa hm;have G:=aa q;have J:=aa O;have aP:=aa a8;have a3:=aa a5;clear hm q O ao a8 a5 bH a4;go_wp2_with fail;refine aT.out.mono ?_;rintro e w1 ⟨rfl,b1⟩;rw[show gD c s.u s.v row j=true from aP.out];have q:=G.out.below b1;have O:=J.out.below b1;clear b1 G J aT a1 ax bm aO aM bq;obtain⟨aJ,aL,x,-⟩:=q.box;have a1:w1.cell? ⟨sb,0,none⟩=some (ag aJ n aL):=x.cl 0;have ax:w1.cell? ⟨sb,3,none⟩=some (ag (some ⟨gt,0,none⟩) n n):=x.cl 3;have aj:=q.rt.get am;have bp:=q.rt.lt;have aO:=x.lt;simp only at aj;have G:=aa q;have J:=aa O;clear q O x;go_wp2_with(at_make;refine jk ry rfl _ _ rfl (St.refl G.out.I) ae ae _ _ n rfl rfl (by go_num) (by go_num) (by omega) ?_;intro w2 aZ aY bG;rw[j7]at aY;have aB:=G.out.below aZ.below;have aG:BR w2 h w1.heap.size w1.heap.size n (aA n false):=(by unfold BR;rw[show dZ (aA n false)=aA n (ay false) by simp[dZ]];exact aY);have bg:=J.out.below aZ.below;have aQ:=aa aG;have a2:=aa aB;have aS:=aa bg;have bB:=aG.fz ab;have bC:=aG.get ab;have l2:=aG.lt;clear aZ aY bG aB aG bg);have ns:w1.heap.size≠sb:=by omega
     have a9:w1.heap.size≠gu:=by have:=G.out.ru.lt;omega
     have ba:w1.heap.size≠gv:=by have:=G.out.rv.lt;omega
     have nt:w1.heap.size≠gt:=by have:=G.out.rt.lt;omega
     have no:w1.heap.size≠go:=by have:=G.out.ro.lt;omega
     have nf:h w1.heap.size=none:=Ow.free aQ.out _ rfl;have aB:=a2.out.tu ((Tu.refl (fun k=>k=w1.heap.size) w2).set (p:=⟨w1.heap.size,j,none⟩) (.inl rfl) (ay true)) (fun k e=>by subst e;exact⟨nf,ns,a9,ba,nt,no⟩);refine(Fs s.u s.v row (ge Y row) ns a9 ba nt no nf (n+1) _ o bI ⟨(aA n false).set j true,Y,oj⟩ aX b2 aB (aQ.out.put ab true) a3.out).mono ?_;rintro e w3 ⟨rfl,q,bN,bd⟩
     have aN:Tu (fun k=>k=gt\/k=go) w w3:=(aS.out.set (p:=⟨w1.heap.size,j,none⟩) (.inr (by have:=aS.out.size;have:=J.out.size;show w.heap.size<=w1.heap.size;omega)) (ay true)).step bd (fun k ak=>by
      rcases ak with ak|ak|ak;·exact .inl (.inl ak)
      ·exact .inl (.inr ak)
      ·subst ak;exact .inr J.out.size)
     have hm:=A.out;clear A G J aQ a2 aS aB a3 bB bC l2 a1 ax aj bp aO bd bN;cases b2 with
     |true=>simp only[aC]at hm;subst hm;obtain⟨aJ,aL,x,-⟩:=q.box;have ax:w3.cell? ⟨sb,3,none⟩=some (ag (some ⟨gt,0,none⟩) n n):=x.cl 3;have bm:w3.cell? ⟨sb,4,none⟩=some (ag (some ⟨go,0,none⟩) n n):=x.cl 4;have aO:=x.lt;have aj:=q.rt.get am;have aM:=q.rt.fz am;have bE:=q.ro.get ab;have bT:=q.ro.fz ab;simp only at aj bE;have bp:=q.rt.lt;have bq:=q.ro.lt;have k2:=q.bt;have k3:=q.tq;have bL:=aa ((q.rC am (j:Int)).rD ab (row:Int));have bR:=aa ((aN.set (p:=⟨gt,row,none⟩) (.inl (.inl rfl)) (af ae (j:Int))).set (p:=⟨go,j,none⟩) (.inl (.inr rfl)) (af ae (row:Int)));clear q aN x;go_wp2_with fail;refine aF (j0 rfl _ _ _) rfl ?_;simp only;exact⟨trivial,bL.out,bR.out⟩
     |false=>
      have A:=aa hm;have G:=aa q;have J:=aa aN;clear hm q aN;go_wp2_with fail;go_roundw;case rel=>exact⟨j+1,aX.tq,aX.owner,by omega,by go_num,A.out,G.out,J.out⟩
      case measure=>simp[intOf];omega
  ·obtain rfl:K=j:=by omega
   rw[kH]at hm;simp only[Kr,kl,aC]at hm;subst hm;have G:=aa q;have J:=aa O;clear q O;go_wp2_with fail;refine bodyPost_end (j0 rfl _ _ _) rfl ?_;exact⟨rfl,G.out,J.out⟩
theorem oI(c:List (List Int)):jI c=true↔c.length<=40/\∀r∈c,r.length=c.length/\∀x∈r,0<=x/\x<=1048576:=by simp[jI]
def ye(n:Nat)(r:List Int):Prop:=r.length=n/\∀x∈r,0<=x/\x<=1048576
theorem yf{α:Type}{P:α->Prop}{c:List α}{j:Nat}(hj:j<c.length)(h:∀r∈c.take j,P r)(hp:P c[j]):∀r∈c.take (j+1),P r:=by
 intro r hr;rw[List.take_add_one,aE hj]at hr;rcases List.mem_append.1 hr with hr|hr;·exact h r hr
 ·simp at hr;subst hr;exact hp
theorem uy{c:List (List Int)}{j:Nat}(hj:j<c.length)(h:¬ye c.length c[j]):jI c=false:=by rw[Bool.eq_false_iff];intro e;exact h ((oI c).1 e|>.2 _ (aK hj))
theorem Fv(h:Hp)(w:World)(aN:ao h w)(v:Value)(c:List (List Int))(hv:gP h v c):Calls ai 141 #[v] w fun e w'=>e= .returned (ay (jI c))/\Below w.heap.size w w':=by
 obtain⟨a,a3,rfl,bm,aO⟩:=hv.open;have aV:=aa aO;have ak:=aa aN;clear hv aO aN;by_cases aB:c.length<=40
 case neg=>
  have aZ:¬((c.length:Int)<=40):=by omega
  have bA:(40:Int)<(c.length:Int):=by omega
  have G:Hid (jI c=false):=by unfold Hid jI;rw[decide_eq_false aB,Bool.false_and]
  go_in;go_wp2_with fail;go_ret;refine⟨?_,aD _ _⟩;rw[G.out];rfl
 case pos=>
  have aZ:¬((40:Int)<(c.length:Int)):=by omega
  have aQ:=aa aB;go_in;go_wp2_with fail;go_loopw[12] (fun i wr=>∃(j:Nat),j<=c.length/\i=af ae j/\(∀r∈c.take j,ye c.length r)/\wr=w) (fun i _=>c.length-(intOf i).toNat);case atStart=>exact⟨0,aW _,rfl,fun k ab=>by simp at ab,rfl⟩
  case round=>
   obtain⟨j,bg,rfl,aJ,rfl⟩:=hrel;have aj:=aa aJ;clear aJ;by_cases hj:j<c.length
   ·obtain⟨b,o,rfl,a9,hc⟩:=aV.out _ ak.out (by omega);obtain⟨ad,a4,a8,aG⟩:=hc j hj;have bB:(0:Int)<=(j:Int):=by omega
    have bC:(j:Int)<(c.length:Int):=by omega
    obtain⟨a2,a5,ax,bp,aL⟩:=aG.open;simp only[bU,true_and]at ax;obtain⟨rfl,rfl⟩:=ax;have aS:=aa aL;clear hc aG aL;by_cases J:c[j].length=c.length
    ·have g1:((c[j].length:Int)==(c.length:Int))=true:=kO (by omega);have g2:((c[j].length:Int)!=(c.length:Int))=false:=by simp[J]
     have aY:((c[j].length:Int)=(c.length:Int)):=by omega
     have aT:=aa J;clear J;go_wp2_with fail;go_loopw[23] (fun k a1=>∃(i:Nat),i<=c[j].length/\k=af ae i/\(∀x∈c[j].take i,0<=x/\x<=1048576)/\a1=wr) (fun k _=>c[j].length-(intOf k).toNat);case atStart=>exact⟨0,aW _,rfl,fun k ab=>by simp at ab,rfl⟩
     case round=>
      obtain⟨i,bd,rfl,aP,rfl⟩:=hrel;have am:=aa aP;clear aP;by_cases O:i<c[j].length
      ·obtain⟨b2,bz,rfl,ba,aM⟩:=aS.out _ ak.out (by omega);have aX:=aM i O;have bE:(0:Int)<=(i:Int):=by omega
       have bG:(i:Int)<(c[j].length:Int):=by omega
       clear aM;generalize hx:c[j][i]=x at aX;have Y:=aa hx;clear hx;by_cases bq:x<0;·have G:Hid (jI c=false):=uy hj (fun e=>by have:=e.2 _ (aK O);rw[Y.out]at this;omega);go_wp2_with fail;go_ret;refine⟨?_,aD _ _⟩;rw[G.out];rfl
       ·by_cases bv:1048576<x;·have G:Hid (jI c=false):=uy hj (fun e=>by have:=e.2 _ (aK O);rw[Y.out]at this;omega);go_wp2_with fail;go_ret;refine⟨?_,aD _ _⟩;rw[G.out];rfl
        ·go_wp2_with fail;go_roundw;case rel=>exact⟨i+1,by omega,by go_num,yf O am.out (by rw[Y.out];omega),trivial⟩
         case measure=>simp[intOf];omega
      ·go_wp2_with fail;go_roundw;case rel=>exact⟨j+1,by omega,by go_num,yf hj aj.out ⟨aT.out,fun x hx=>am.out x (by rw[iG (by omega)];exact hx)⟩,trivial⟩
       case measure=>simp[intOf];omega
    ·have g1:((c[j].length:Int)==(c.length:Int))=false:=kK (by omega);have aY:¬((c[j].length:Int)=(c.length:Int)):=by omega
     have G:Hid (jI c=false):=uy hj (fun e=>J e.1);clear J;go_wp2_with fail;go_ret;refine⟨?_,aD _ _⟩;rw[G.out];rfl
   ·have G:Hid (jI c=true):=(oI c).2 ⟨aQ.out,fun r hr=>aj.out r (by rw[iG (by omega)];exact hr)⟩;go_wp2_with fail;go_ret;refine⟨?_,aD _ _⟩;rw[G.out];rfl
def hY(h:Hp)(B n:Nat)(cv:Value)(i:Nat)(x:Nat->Value)(v:Value)(w:World):Prop:=
 match i with
 |0=>v=cv
 |1=>v=af ae n
 |2=>∃g,v=ag (some ⟨g,0,none⟩) n n/\IR w h B g n (cM n)
 |3=>v=af ae n
 |4=>∃g,v=ag (some ⟨g,0,none⟩) n n/\IR w h B g n (cM n)
 |5=>∃g,v=ag (some ⟨g,0,none⟩) 1 1/\g<w.heap.size/\w.cell? ⟨g,0,none⟩=some (af ae (-1))/\B<=g
 |6=>v=af ae n
 |7=>∃g,v=ag (some ⟨g,0,none⟩) n n/\IR w h B g n (aA n (-1))
 |8=>∃g,v=ag (some ⟨g,0,none⟩) 1 1/\g<w.heap.size/\w.cell? ⟨g,0,none⟩=some (af ae (-1))/\B<=g
 |9=>v=af ae n
 |10=>∃g,v=ag (some ⟨g,0,none⟩) n n/\IR w h B g n (aA n (-1))
 |11=>v=aq #[x 0,x 2,x 4,x 7,x 10]
 |12=>∃sb cs,v=az (some ⟨sb,0,none⟩)/\x 11=aq cs/\Has w sb cs/\B<=sb
 |_=>v=x 12
theorem yo(W:World)(n:Nat)(hn:n<=1000000):(Instr.makeSlice 34 (af ae n) (af ae n)).run ai W= .ok (ag (some ⟨W.heap.size,0,none⟩) n n) (W.alloc (.cells (aA n (af ae 0)).toArray 3)):=by
 obtain⟨i,zv,h1,h2,G,J,O⟩:=fP.lJ;have:=run_make W 34 3 i zv fP.und h1 h2 ae ae (n:Int) (n:Int) (by omega) (by omega) (by rw[J];omega) (by omega);have e:madeCells #[af ae 0] (n*1)=(aA n (af ae 0)).toArray:=by apply Array.ext';rw[j7]
 rw[<-e];simpa[G,O]using this
theorem yp{W:World}{h:Hp}(J:ao h W){B:Nat}(G:B<=W.heap.size)(n:Nat)(hn:n<=1000000):IR (W.alloc (.cells (aA n (af ae 0)).toArray 3)) h B W.heap.size n (cM n):=by refine Ow.uA ?_ G (bI J _ (kI _)) (by simp only[maxLen];omega) (by simp[aV,cM]);rw[show aV (cM n)=aA n (af ae 0) by simp[aV,cM]];exact heap_alloc_new W _
theorem hY.mono{h:Hp}{B n:Nat}{O:Value}:∀(i:Nat) (x:Nat->Value) (v:Value) (w w':World),hY h B n O i x v w->Below w.heap.size w w'->hY h B n O i x v w':=by
 intro i x v w w' hf b;have G:∀g l,IR w h B g n l->IR w' h B g n l:=fun g l r=>r.tu ((Tu.refl (fun _=>False) w).below b) id;have J:∀g,g<w.heap.size->w'.cell? ⟨g,0,none⟩=w.cell? ⟨g,0,none⟩:=fun g Y=>b.cell Y
 match i with
 |0=>exact hf
 |1=>exact hf
 |2=>obtain⟨g,e,r⟩:=hf;exact⟨g,e,G g _ r⟩
 |3=>exact hf
 |4=>obtain⟨g,e,r⟩:=hf;exact⟨g,e,G g _ r⟩
 |5=>obtain⟨g,e,r,c,q⟩:=hf;exact⟨g,e,bK r b.size,(J g r).trans c,q⟩
 |6=>exact hf
 |7=>obtain⟨g,e,r⟩:=hf;exact⟨g,e,G g _ r⟩
 |8=>obtain⟨g,e,r,c,q⟩:=hf;exact⟨g,e,bK r b.size,(J g r).trans c,q⟩
 |9=>exact hf
 |10=>obtain⟨g,e,r⟩:=hf;exact⟨g,e,G g _ r⟩
 |11=>exact hf
 |12=>obtain⟨sb,cs,e,q,r,s⟩:=hf;exact⟨sb,cs,e,q,r.below b,s⟩
 |k+13=>exact hf
theorem FA{h:Hp}{w:World}(ab:ao h w){ac:Option Addr}{am:Nat}{c:List (List Int)}(R:gP h (ag ac c.length am) c)(aM:∀r∈c,r.length=c.length){i j:Nat}(aj:i<c.length)(hj:j<c.length):∃b o,ac=some ⟨b,o,none⟩/\b<w.heap.size/\∃b2 G c2,w.cell? ⟨b,o+i,none⟩=some (ag (some ⟨b2,G,none⟩) c.length c2)/\b2<w.heap.size/\w.cell? ⟨b2,G+j,none⟩=some (af ae (gm c i j)):=by
 obtain⟨cs,aN,ax⟩:=R;obtain⟨b,o,rfl,aG,hc⟩:=aN.cells ab (by omega);obtain⟨aO,⟨ad,O,rfl,J⟩,Y⟩:=ax.at 1 io.len i aj;have hr:=aM c[i] (aK _);rw[hr]at Y J;have c1:=hc i (ag ad c.length O) (by have:=Y 0 (by omega);simpa using this);obtain⟨ak,-⟩:=J;rw[hr]at ak;obtain⟨b2,G,rfl,aJ,aL⟩:=ak.cells ab (by omega);refine⟨b,o,rfl,aG,b2,G,O,c1,aJ,?_⟩;have aB:gm c i j=c[i][j]:=by simp[gm,ge,List.getD_eq_getElem?_getD,aE aj,aE (show j<c[i].length by omega)]
 rw[aB];exact aL j _ (by simp[aE (show j<c[i].length by omega)])
theorem bind_none{α:Type}(f:Nat->α->Option α)(l:List Nat):l.foldl (fun s i=>s.bind (f i)) none=none:=by
 induction l with
 |nil=>rfl
 |cons a l G=>exact G
theorem bind_some{α:Type}(f:Nat->α->Option α)(n:Nat){a b:α}(h:(aw n).foldl (fun s i=>s.bind (f i)) (some a)=some b)(j:Nat)(hj:j<=n):∃c,(aw j).foldl (fun s i=>s.bind (f i)) (some a)=some c:=by
 induction n generalizing b with
 |zero=>
  obtain rfl:j=0:=by omega
  exact⟨_,rfl⟩
 |succ n G=>
  by_cases e:j=n+1;·subst e;exact⟨_,h⟩
  ·rw[dx,dH,dK,fk]at h;cases hf:(aw n).foldl (fun s i=>s.bind (f i)) (some a)with
   |none=>rw[hf]at h;cases h
   |some a'=>exact G hf (by omega)
theorem yq{α:Type}(f:Nat->α->Option α)(n:Nat){a b:α}(h:(aw n).foldl (fun s i=>s.bind (f i)) (some a)=some b){j:Nat}(hj:j<n){G:α}(J:(aw j).foldl (fun s i=>s.bind (f i)) (some a)=some G):∃c,f j G=some c/\(aw (j+1)).foldl (fun s i=>s.bind (f i)) (some a)=some c:=by obtain⟨c,hc⟩:=bind_some f n h (j+1) hj;refine⟨c,?_,hc⟩;rw[dx,dH,dK,fk,J]at hc;exact hc
theorem wu(h:Hp)(w:World)(cD:ao h w)(v:Value)(c:List (List Int))(hv:gP h v c)(hm:jI c=true)(s:fD)(hs:nV c=some s)(hr:∀i,i<c.length->0<=ge s.tq i/\ge s.tq i<c.length):Calls ai 102 #[v] w fun e w'=>∃gu gv gt k,e= .returned (bD #[aq #[ag (some ⟨gt,0,none⟩) c.length c.length,af ae k,ag (some ⟨gu,0,none⟩) c.length c.length,ag (some ⟨gv,0,none⟩) c.length c.length],af ae 0])/\Below w.heap.size w w'/\IR w' h w.heap.size gt c.length s.tq:=by
 have bV:=aa hv;have cl:=aa cD;have bp:=aa hm;have cn:=aa hs;have cY:=aa hr;obtain⟨ac,b0,rfl,dZ,-⟩:=hv.open;clear hv cD hm hs hr;go_in;go_wp2_with fail;refine(Fv h _ (by exact cl.out.alloc _) _ c bV.out).mono ?_;rintro e w1 ⟨rfl,b1⟩;rw[bp.out];have bq:Hid (Has w1 w.heap.size #[ag none 0 0,af ae 0,ag none 0 0,ag none 0 0]):=(Has.new _ _ _).below b1;have co:Hid (St w.heap.size h w h w1):=((St.refl cl.out).alloc _).same b1;clear b1;go_wp2_with fail;have dr:c.length<=40:=((oI c).1 bp.out).1;have dD:Hid (∀W,St w.heap.size h w h W->ao h W):=fun W st=>st.I;refine E5 (by kernel_rfl) (by kernel_rfl) (hY h w1.heap.size c.length (ag ac c.length b0)) (fun W=>St w.heap.size h w h W/\Below w1.heap.size w1 W) (fun i=>i=2\/i=4\/i=7\/i=10\/i=12) hY.mono ?hF ⟨co.out.drew,(aD _ _).drew⟩ ?hstep ?hend
 case hF=>
  intro i o G x d5 v W he hf
  match i,G,hf with
  |0,_,hf=>exact hf
  |1,_,hf=>exact hf
  |2,_,hf=>exact hf
  |3,_,hf=>exact hf
  |4,_,hf=>exact hf
  |5,_,hf=>exact hf
  |6,_,hf=>exact hf
  |7,_,hf=>exact hf
  |8,_,hf=>exact hf
  |9,_,hf=>exact hf
  |10,_,hf=>exact hf
  |11,G,hf=>cases G;have a2:=he ⟨0,.data⟩ (by simp) rfl;have J:=he ⟨2,.data⟩ (by simp) rfl;have ab:=he ⟨4,.data⟩ (by simp) rfl;have aj:=he ⟨7,.data⟩ (by simp) rfl;have aG:=he ⟨10,.data⟩ (by simp) rfl;simp only at a2 J ab aj aG;simp only[hY]at hf⊢;rw[hf,a2,J,ab,aj,aG]
  |12,G,hf=>cases G;have a3:=he ⟨11,.data⟩ (by simp) rfl;simp only at a3;simp only[hY]at hf⊢;rw[<-a3];exact hf
  |13,G,hf=>cases G;have aT:=he ⟨12,.data⟩ (by simp) rfl;simp only at aT;simp only[hY]at hf⊢;rw[<-aT];exact hf
  |k+14,G,_=>simp at G
 case hstep=>
  intro i o G x a W ⟨st,bl⟩ O hd dC hK
  match i,G,hd with
  |0,G,hd=>cases G;have e:=O 0 (ag ac c.length b0) rfl rfl;unfold jC;simp[j3,e];exact hK _ _ rfl (aD _ _) ⟨st,bl⟩ (fun e=>by simp at e)
  |1,G,hd=>cases G;have e:=O 4 (af ae c.length) rfl rfl;unfold jC;simp[j3,e];exact hK _ _ rfl (aD _ _) ⟨st,bl⟩ (fun e=>by simp at e)
  |2,G,hd=>cases G;have e:=hd ⟨1,.data⟩ (by simp) rfl _ _ rfl rfl;simp only[hY]at e;rw[e.2]at e;have ci:=yo W c.length (by omega);unfold jC;simp[j3,e.1,ci,nj];exact hK _ _ ⟨W.heap.size,rfl,yp st.I (by have:=bl.size;omega) _ (by omega)⟩ ((aD _ _).alloc (kI _) _) ⟨st.alloc _,bl.alloc (by have:=bl.size;omega) _⟩ (fun _ g ak=>by simp[bk]at ak;subst ak;simp)
  |3,G,hd=>cases G;have e:=O 4 (af ae c.length) rfl rfl;unfold jC;simp[j3,e];exact hK _ _ rfl (aD _ _) ⟨st,bl⟩ (fun e=>by simp at e)
  |4,G,hd=>cases G;have e:=hd ⟨3,.data⟩ (by simp) rfl _ _ rfl rfl;simp only[hY]at e;rw[e.2]at e;have ci:=yo W c.length (by omega);unfold jC;simp[j3,e.1,ci,nj];exact hK _ _ ⟨W.heap.size,rfl,yp st.I (by have:=bl.size;omega) _ (by omega)⟩ ((aD _ _).alloc (kI _) _) ⟨st.alloc _,bl.alloc (by have:=bl.size;omega) _⟩ (fun _ g ak=>by simp[bk]at ak;subst ak;simp)
  |5,G,hd=>cases G;go_simp;refine hK _ _ ⟨W.heap.size,rfl,by simp,?_,by have:=bl.size;omega⟩ ((aD _ _).alloc (kI _) _) ⟨st.alloc _,bl.alloc (by have:=bl.size;omega) _⟩ (fun e=>by simp at e);rw[cJ _ _ _ _ rfl];rfl
  |6,G,hd=>cases G;have e:=O 4 (af ae c.length) rfl rfl;unfold jC;simp[j3,e];exact hK _ _ rfl (aD _ _) ⟨st,bl⟩ (fun e=>by simp at e)
  |7,G,hd=>
   cases G;have e:=hd ⟨5,.data⟩ (by simp) rfl _ _ rfl rfl;have J:=hd ⟨6,.data⟩ (by simp) rfl _ _ rfl rfl;simp only[hY]at e J;rw[J.2]at J;obtain⟨aB,g,ce,ak,hc,cA⟩:=e;rw[ce]at aB;have aP:=aB;have aL:=J.1;simp only[sL,sM]at aP aL;go_simp;refine(yn h W st.I g [af ae (-1)] rfl (cm _ rfl) (fun j v hj=> ?_) ak c.length (by omega)).mono ?_
   ·cases j with
    |zero=>simp at hj;subst hj;exact hc
    |succ j=>simp at hj
   ·rintro e w' ⟨rfl,b2,aX⟩;refine hK _ _ ⟨W.heap.size,rfl,?_⟩ b2 ⟨st.same b2,bl.trans (b2.mono (by have:=bl.size;omega))⟩ (fun _ g' ba=>by simp[bk]at ba;subst ba;exact⟨kI _,(aX.lt _ rfl).2⟩);unfold IR;rw[show aV (aA c.length (-1))=(aA c.length [af ae (-1)]).flatten by simp[aV]];exact aX.base (by have:=bl.size;omega)
  |8,G,hd=>cases G;go_simp;refine hK _ _ ⟨W.heap.size,rfl,by simp,?_,by have:=bl.size;omega⟩ ((aD _ _).alloc (kI _) _) ⟨st.alloc _,bl.alloc (by have:=bl.size;omega) _⟩ (fun e=>by simp at e);rw[cJ _ _ _ _ rfl];rfl
  |9,G,hd=>cases G;have e:=O 4 (af ae c.length) rfl rfl;unfold jC;simp[j3,e];exact hK _ _ rfl (aD _ _) ⟨st,bl⟩ (fun e=>by simp at e)
  |10,G,hd=>
   cases G;have e:=hd ⟨8,.data⟩ (by simp) rfl _ _ rfl rfl;have J:=hd ⟨9,.data⟩ (by simp) rfl _ _ rfl rfl;simp only[hY]at e J;rw[J.2]at J;obtain⟨aB,g,ce,ak,hc,cA⟩:=e;rw[ce]at aB;have aP:=aB;have aL:=J.1;simp only[sL,sM]at aP aL;go_simp;refine(yn h W st.I g [af ae (-1)] rfl (cm _ rfl) (fun j v hj=> ?_) ak c.length (by omega)).mono ?_
   ·cases j with
    |zero=>simp at hj;subst hj;exact hc
    |succ j=>simp at hj
   ·rintro e w' ⟨rfl,b2,aX⟩;refine hK _ _ ⟨W.heap.size,rfl,?_⟩ b2 ⟨st.same b2,bl.trans (b2.mono (by have:=bl.size;omega))⟩ (fun _ g' ba=>by simp[bk]at ba;subst ba;exact⟨kI _,(aX.lt _ rfl).2⟩);unfold IR;rw[show aV (aA c.length (-1))=(aA c.length [af ae (-1)]).flatten by simp[aV]];exact aX.base (by have:=bl.size;omega)
  |11,G,hd=>cases G;have a2:=hd ⟨0,.data⟩ (by simp) rfl _ _ rfl rfl;have J:=hd ⟨2,.data⟩ (by simp) rfl _ _ rfl rfl;have ab:=hd ⟨4,.data⟩ (by simp) rfl _ _ rfl rfl;have aj:=hd ⟨7,.data⟩ (by simp) rfl _ _ rfl rfl;have aG:=hd ⟨10,.data⟩ (by simp) rfl _ _ rfl rfl;simp only[hY]at a2 J ab aj aG;obtain⟨aO,cE⟩:=a2;obtain⟨aL,g2,cG,-⟩:=J;obtain⟨a5,dQ,cK,-⟩:=ab;obtain⟨a8,dT,cN,-⟩:=aj;obtain⟨a4,dP,cF,-⟩:=aG;have aJ:=hK (aq #[x 0,x 2,x 4,x 7,x 10]) W rfl (aD _ _) ⟨st,bl⟩ (fun e=>by simp at e);rw[cE]at aO aJ;rw[cG]at aL aJ;rw[cK]at a5 aJ;rw[cN]at a8 aJ;rw[cF]at a4 aJ;simp only[sL,sM]at aO aL a5 a8 a4;have bX:=aa aJ;clear aJ hK cE cG cK cN cF;go_simp;exact bX.out
  |12,G,hd=>cases G;have e:=hd ⟨11,.data⟩ (by simp) rfl _ _ rfl rfl;simp only[hY]at e;obtain⟨aP,q⟩:=e;have aJ:=fun cs (c9:x 11=aq cs)=>hK (az (some ⟨W.heap.size,0,none⟩)) (W.alloc (.cells cs 212)) ⟨W.heap.size,cs,rfl,c9,Has.new W cs 212,by have:=bl.size;omega⟩ ((aD _ _).alloc (kI _) _) ⟨st.alloc _,bl.alloc (by have:=bl.size;omega) _⟩ (fun _ g ak=>by simp[bk]at ak;subst ak;simp);have bX:=aa (aJ _ q);rw[q]at aP;simp only[sL,sM]at aP;clear aJ hK q;go_simp;exact bX.out
  |13,G,hd=>cases G;have e:=(hd ⟨12,.data⟩ (by simp) rfl _ _ rfl rfl).1;unfold jC;simp[j3,e];exact hK _ _ rfl (aD _ _) ⟨st,bl⟩ (fun e=>by simp at e)
  |k+14,G,_=>simp at G
 case hend=>
  intro x w2 ⟨st,bl⟩ hf ap;have aO:=hf 0 (by decide);have aL:=hf 2 (by decide);have a5:=hf 4 (by decide);have a8:=hf 7 (by decide);have a4:=hf 10 (by decide);have bL:=hf 11 (by decide);have cz:=hf 12 (by decide);have cf:=hf 13 (by decide);simp only[hY]at aO aL a5 a8 a4 bL cz cf;obtain⟨gu,J,r2⟩:=aL;obtain⟨gv,ab,cS⟩:=a5;obtain⟨gt,aj,cU⟩:=a8;obtain⟨go,aG,cQ⟩:=a4;obtain⟨sb,cs,aT,a3,cg,cA⟩:=cz;rw[bL]at a3;have cw: #[x 0,x 2,x 4,x 7,x 10]=cs:=by injection a3
  rw[aO,J,ab,aj,aG]at cw;subst cw;have bB:=ap 2 4 (by decide) (by decide) (by simp) (by simp) (by decide) gu (by rw[J];rfl);have bC:=ap 2 7 (by decide) (by decide) (by simp) (by simp) (by decide) gu (by rw[J];rfl);have bz:=ap 2 10 (by decide) (by decide) (by simp) (by simp) (by decide) gu (by rw[J];rfl);have bA:=ap 2 12 (by decide) (by decide) (by simp) (by simp) (by decide) gu (by rw[J];rfl);have bH:=ap 4 7 (by decide) (by decide) (by simp) (by simp) (by decide) gv (by rw[ab];rfl);have bE:=ap 4 10 (by decide) (by decide) (by simp) (by simp) (by decide) gv (by rw[ab];rfl);have bG:=ap 4 12 (by decide) (by decide) (by simp) (by simp) (by decide) gv (by rw[ab];rfl);have bI:=ap 7 10 (by decide) (by decide) (by simp) (by simp) (by decide) gt (by rw[aj];rfl);have bJ:=ap 7 12 (by decide) (by decide) (by simp) (by simp) (by decide) gt (by rw[aj];rfl);have bv:=ap 10 12 (by decide) (by decide) (by simp) (by simp) (by decide) go (by rw[aG];rfl);rw[ab]at bB;rw[aj]at bC bH;rw[aG]at bz bE bI;rw[aT]at bA bG bJ bv;simp only[bk,ne_eq,aC]at bB bC bz bA bH bE bG bI bJ bv
  have ax:Hid (cB w1.heap.size h w2 sb c c.length gu gv gt go ⟨cM c.length,cM c.length,aA c.length (-1),aA c.length (-1)⟩):=
   ⟨⟨ac,b0,cg,bV.out⟩,st.I,rfl,dr,fun r hr=>(((oI c).1 bp.out).2 r hr).1,r2,cS,cU,cQ,fun e=>bB e.symm,fun e=>bC e.symm,fun e=>bz e.symm,fun e=>bH e.symm,fun e=>bE e.symm,fun e=>bI e.symm,bA,bG,bJ,bv⟩
  have Y:=aa (st.below);have cq:=aa (bq.out.tu ((Tu.refl (fun k=>w1.heap.size<=k) w1).trans ⟨bl.os,bl.tape,bl.output,bl.size,fun k O _=>bl.block k O⟩) (by have:=bq.out.lt;omega));have ct:Hid (w.heap.size<w1.heap.size):=bq.out.lt;have c8:∀k,x k=x k:=fun _=>rfl;have aB:=hf 1 (by decide);have b9:=hf 3 (by decide);have cc:=hf 6 (by decide);have cd:=hf 9 (by decide);obtain⟨dR,cu,-⟩:=hf 5 (by decide);obtain⟨dU,cv,-⟩:=hf 8 (by decide);simp only[hY]at aB b9 cc cd;clear bB bC bz bA bH bE bG bI bJ bv r2 cS cU cQ cg hf ap st bl c8;simp only[jv,Act.put,aO,aB,J,b9,ab,cu,cc,aj,cv,cd,aG,bL,cf,aT,List.setIfInBounds_toArray,List.set_cons_zero,List.set_cons_succ];clear aO aB J b9 ab cu cc aj cv cd aG bL cf aT bq co;go_wp2_with fail;have hs:=cn.out;unfold nV at hs;simp only at hs
  obtain⟨aQ,hA⟩:∃aQ,(aw c.length).foldl (fun s (i:Nat)=>s.bind (lV c c.length i)) (some ⟨cM c.length,cM c.length,aA c.length (-1),aA c.length (-1)⟩)=some aQ:=by
   cases hq:(aw c.length).foldl (fun s (i:Nat)=>s.bind (lV c c.length i)) (some ⟨cM c.length,cM c.length,aA c.length (-1),aA c.length (-1)⟩)with
   |none=>rw[hq,bind_none (fun(i:Nat)=>mQ c c.length i)]at hs;cases hs
   |some aQ=>exact⟨aQ,rfl⟩
  rw[hA]at hs;generalize dk:(⟨cM c.length,cM c.length,aA c.length (-1),aA c.length (-1)⟩:fD)=s0 at ax hA;have bS:=aa hA;have bT:=aa hs;clear dk hA hs cn;go_loopw[31] (fun i wr=>∃(j:Nat) (am:fD),j<=c.length/\i=af ae j/\(aw j).foldl (fun s (i:Nat)=>s.bind (lV c c.length i)) (some s0)=some am/\cB w1.heap.size h wr sb c c.length gu gv gt go am/\Below w.heap.size w wr/\Has wr w.heap.size #[ag none 0 0,af ae 0,ag none 0 0,ag none 0 0]) (fun i _=>c.length-(intOf i).toNat);case atStart=>exact⟨0,s0,aW _,rfl,rfl,ax.out,Y.out,cq.out⟩
  case round=>
   obtain⟨j,am,ch,rfl,hj,q,bl,xb⟩:=hrel;have aZ:Hid (∀k,(k=gu\/k=gv\/k=gt\/k=go)->w.heap.size<k):=fun k O=>by have h1:w1.heap.size<=gu:=(Ow.lt q.ru _ rfl).1;have h2:w1.heap.size<=gv:=(Ow.lt q.rv _ rfl).1;have dW:w1.heap.size<=gt:=(Ow.lt q.rt _ rfl).1;have dX:w1.heap.size<=go:=(Ow.lt q.ro _ rfl).1;have:=ct.out;rcases O with rfl|rfl|rfl|rfl<;>omega
   clear ax Y cq;by_cases aM:j<c.length
   ·obtain⟨bg,h1,h2⟩:=yq _ _ bS.out aM hj;have bR:=aa h2;have aY:=aa (FB q j aM bg h1);have Y:=aa bl;have aN:=aa xb;have cV:(j:Int)<(c.length:Int):=by omega
    clear q bl xb h1 h2 hj;go_wp2_with fail;refine aY.out.mono ?_;rintro e w3 ⟨rfl,q,aS⟩;have bY:=aa q;have bO:Hid (Below w.heap.size w w3):=Y.out.trans (aS.jR Y.out.size fun k O=>kB (aZ.out k O));have bZ:=aa (aN.out.tu aS (fun O=>Nat.lt_irrefl _ (aZ.out _ O)));clear q aS aY;go_wp2_with fail;go_roundw;case rel=>exact⟨j+1,bg,by omega,by go_num,bR.out,bY.out,bO.out,bZ.out⟩
    case measure=>simp[intOf];omega
   ·have bd:j=c.length:=by omega
    rw[bd]at hj;obtain rfl:aQ=am:=aU (bS.out.symm.trans hj);have ax:=aa q;have Y:=aa bl;have aN:=aa xb;clear q bl xb hj bS;subst bd;go_wp2_with fail;go_loopw[39] (fun i cj=>∃(j:Nat) (am:fD),j<=c.length/\i=af ae j/\(aw j).foldl (fun s (i:Nat)=>s.bind (mQ c c.length i)) (some aQ)=some am/\cB w1.heap.size h cj sb c c.length gu gv gt go am/\Below w.heap.size w cj/\Has cj w.heap.size #[ag none 0 0,af ae 0,ag none 0 0,ag none 0 0]) (fun i _=>c.length-(intOf i).toNat);case atStart=>exact⟨0,aQ,aW _,rfl,rfl,ax.out,Y.out,aN.out⟩
    case round=>
     obtain⟨j,am,ch,rfl,hj,q,bl,xb⟩:=hrel;clear ax Y aN;by_cases aM:j<c.length
     ·obtain⟨bg,h1,h2⟩:=yq _ _ bT.out aM hj;have bR:=aa h2;have aY:=aa (Fu q j aM bg h1);have Y:=aa bl;have aN:=aa xb;have cV:(j:Int)<(c.length:Int):=by omega
      clear q bl xb h1 h2 hj;go_wp2_with fail;refine aY.out.mono ?_;rintro e w3 ⟨rfl,q,aS⟩;have bY:=aa q;have bO:Hid (Below w.heap.size w w3):=Y.out.trans (aS.jR Y.out.size fun k O=>kB (aZ.out k (by rcases O with rfl|rfl;exact .inr (.inr (.inl rfl));exact .inr (.inr (.inr rfl)))));have bZ:=aa (aN.out.tu aS (fun O=>Nat.lt_irrefl _ (aZ.out _ (by rcases O with O|O;exact .inr (.inr (.inl O));exact .inr (.inr (.inr O))))));clear q aS aY;go_wp2_with fail;go_roundw;case rel=>exact⟨j+1,bg,by omega,by go_num,bR.out,bY.out,bO.out,bZ.out⟩
      case measure=>simp[intOf];omega
     ·have bd:j=c.length:=by omega
      rw[bd]at hj;have dh:am=s:=aU (hj.symm.trans bT.out);subst dh;have ax:=aa q;have Y:=aa bl;have aN:=aa xb;obtain⟨dE,dF,bm,cC⟩:=q.cell;have dB:=aa cC;have d6:wr.cell? ⟨sb,1,none⟩=some (ag (some ⟨gu,0,none⟩) c.length c.length):=bm.cl 1;have d7:wr.cell? ⟨sb,2,none⟩=some (ag (some ⟨gv,0,none⟩) c.length c.length):=bm.cl 2;have d8:wr.cell? ⟨sb,3,none⟩=some (ag (some ⟨gt,0,none⟩) c.length c.length):=bm.cl 3;have ea:=bm.lt;have du:=xb.cl 0;have dv:=xb.cl 1;have dw:=xb.cl 2;have dA:=xb.cl 3;have aO:=xb.fz 0;have aP:=xb.fz 1;have aL:=xb.fz 2;have dO:=xb.fz 3;have d9:=xb.lt;simp only[List.getElem?_toArray,List.getElem?_cons_zero,List.getElem?_cons_succ]at du dv dw dA;clear q bl xb hj bT cC bm aM ch;subst bd;go_wp2_with fail;go_loopw[8,51] (fun k i dt=>∃(j:Nat) (z:Int),j<=c.length/\i=af ae j/\k=af ae z/\dt=wr) (fun _ i _=>c.length-(intOf i).toNat);case atStart=>exact⟨0,0,aW _,rfl,rfl,rfl⟩
      case round=>
       obtain⟨j,z,ch,rfl,rfl,rfl⟩:=hrel;by_cases aM:j<c.length
       ·obtain⟨dn,dp⟩:=cY.out j aM;obtain⟨m,hm⟩:∃m:Nat,ge am.tq j=m:=⟨(ge am.tq j).toNat,by omega⟩
        have di:m<c.length:=by omega
        obtain⟨b,o,rfl,cg,b2,aX,c2,dG,dY,dN⟩:=FA ax.out.I bV.out (fun r hr=>(((oI c).1 bp.out).2 r hr).1) aM di;have aB:=ax.out.rt.get aM;rw[hm]at aB;have d1:=ax.out.rt.lt;have cV:(0:Int)<=(j:Int):=by omega
        have d2:(j:Int)<(c.length:Int):=by omega
        have d3:(0:Int)<=(m:Int):=by omega
        have d4:(m:Int)<(c.length:Int):=by omega
        clear dn dp hm;go_wp2_with fail;go_roundw;case rel=>exact⟨j+1,_,by omega,by go_num,rfl,trivial⟩
        case measure=>simp[intOf];omega
       ·have dg:j=c.length:=by omega
        subst dg;have bN:gt≠w.heap.size:=Nat.ne_of_gt (aZ.out gt (.inr (.inr (.inl rfl))));obtain⟨W,a9⟩:∃W,W=(((((wr.setCell ⟨w.heap.size,0,none⟩ (ag (some ⟨gt,0,none⟩) c.length c.length)).setCell ⟨w.heap.size,1,none⟩ (af ae z)).setCell ⟨w.heap.size,2,none⟩ (ag (some ⟨gu,0,none⟩) c.length c.length)).setCell ⟨w.heap.size,3,none⟩ (ag (some ⟨gv,0,none⟩) c.length c.length)).drew):=⟨_,rfl⟩
        have cX:Hid (Below w.heap.size w W):=by unfold Hid;rw[a9];exact((((Y.out.setCell (p:=⟨w.heap.size,0,none⟩) (kI _) _).setCell (p:=⟨w.heap.size,1,none⟩) (kI _) _).setCell (p:=⟨w.heap.size,2,none⟩) (kI _) _).setCell (p:=⟨w.heap.size,3,none⟩) (kI _) _).drew
        have c6:Hid (IR W h w1.heap.size gt c.length am.tq):=by unfold Hid;rw[a9];exact((((ax.out.rt.ne bN _ _).ne bN _ _).ne bN _ _).ne bN _ _).drewN 1
        have a1:Has W w.heap.size #[ag (some ⟨gt,0,none⟩) c.length c.length,af ae z,ag (some ⟨gu,0,none⟩) c.length c.length,ag (some ⟨gv,0,none⟩) c.length c.length]:=by rw[a9];exact((((aN.out.fg 0 (by simp) _).fg 1 (by simp) _).fg 2 (by simp) _).fg 3 (by simp) _).drew
        have dm:W.cell? ⟨w.heap.size,0,none⟩=some (ag (some ⟨gt,0,none⟩) c.length c.length):=a1.cl 0;have k1:W.cell? ⟨w.heap.size,1,none⟩=some (af ae z):=a1.cl 1;have k2:W.cell? ⟨w.heap.size,2,none⟩=some (ag (some ⟨gu,0,none⟩) c.length c.length):=a1.cl 2;have k3:W.cell? ⟨w.heap.size,3,none⟩=some (ag (some ⟨gv,0,none⟩) c.length c.length):=a1.cl 3;have cZ:=aa a9;clear a9 a1;go_wp2_with fail;refine wp_region_still_tail 14 (by kernel_rfl) (by kernel_rfl) ?_;simp only[List.take_succ_cons,List.take_zero,List.drop_succ_cons,List.drop_zero];change wpStill _ _ (q1 _) (fun a'=>wpList _ _ _ _ a' (q1 _)) _ _;repeat still_step
        refine wpStill_nil ?_;go_wp2_with fail;rw[<-cZ.out];refine aF (v:=bD #[aq #[ag (some ⟨gt,0,none⟩) c.length c.length,af ae z,ag (some ⟨gu,0,none⟩) c.length c.length,ag (some ⟨gv,0,none⟩) c.length c.length],af ae 0]) (by simp[results,Tryz.results102,go_sem,dm,k1,k2,k3]) rfl ?_;exact⟨gu,gv,gt,z,rfl,cX.out,Ow.base c6.out (kB ct.out)⟩
end Go.Proofs.YtdplggpbgommnaaGreatDoor
