/- assign: move, lower, matrix. -/
import Derived.Test.YtdplggpbgommnaaGreatDoorG08
open Go renaming bodyPost_ret→aF,results_none→j0,results→aH
open Go.Addr.mk renaming injEq→cx
open Go.IntKind renaming i64→ae
open Go.Lib renaming hid→aa
open Go.Proofs.Tryz renaming prog→ai,results131→KE
open Go.RowKit.Below renaming heap_setCell→cH,refl→aD
open Go.Value renaming agg→aq,bool→ay,int→af,pointer→az,slice→ag,string→ah,tuple→bD
open Go.Value.slice renaming injEq→bU
open Go.World renaming cell?_of_block→dc,drew→dd,frozen?_of_block→kG,setCell→ef
open Go.World.grownBy renaming refl→kC
open List renaming flatMap_cons→fH,getElem_mem→aK,length_cons→bF,range'_succ→Kp,range'_zero→Kr,range'→mi,range_eq_range'→Kq,replicate→aA,take_of_length_le→iG
open Nat renaming le_refl→an,lt_of_lt_of_le→bK,sub_self→kH,zero_le→aW
open Option.some renaming injEq→aC,inj→aU
open Prod.mk renaming injEq→jg
set_option maxRecDepth 100000
set_option maxHeartbeats 8000000
namespace Go.Proofs.YtdplggpbgommnaaGreatDoor
open Go.RowKit
theorem Fq(tight:Int→Int→Bool)(n:Nat)(A E:Int)(M:Int→gE→Option (Bool×gE))(r:Int)(j k:Nat)(m:gE):iR tight n A E M r (mi j (k+1)) m=(if m.used.getD j false=true∨tight r j=false then iR tight n A E M r (mi (j+1) k) m else if(j:Int)=E then some (true,⟨m.used.set j true,m.tq.set r.toNat j,m.owner.set j r⟩)
  else if A<ge m.owner j then
   if n≤ge m.owner j then none else
   match M (ge m.owner j) {m with used:=m.used.set j true}with
   |none=>none
   |some (true,G)=>some (true,{G with tq:=G.tq.set r.toNat j,owner:=G.owner.set j r})
   |some (false,G)=>iR tight n A E M r (mi (j+1) k) G
  else iR tight n A E M r (mi (j+1) k) m):=by
 rw[Kp];rfl
theorem Fs{B B':Nat}{h:Hp}{sb:Nat}{c:List (List Int)}{n gu gv gt go gd:Nat}(u v:List Int)(ax:Nat)(aB:Int)(aX:gd≠sb)(bp:gd≠gu)(bq:gd≠gv)(aO:gd≠gt)(aM:gd≠go)(bv:h gd=none):∀(f:Nat) (w:World) (r:Nat) (_:r<n) (m ao:gE) (b:Bool) (_:cB B h w sb c n gu gv gt go ⟨u,v,m.tq,m.owner⟩) (_:BR w h B' gd n m.used) (_:jS (gD c u v) n ax aB f r m=some (b,ao)),Calls ai 183 #[az (some ⟨sb,0,none⟩),af ae r,af ae ax,af ae aB,ag (some ⟨gd,0,none⟩) n n] w fun e w'=>e= .returned (ay b)∧cB B h w' sb c n gu gv gt go ⟨u,v,ao.tq,ao.owner⟩∧BR w' h B' gd n ao.used∧Tu (fun k=>k=gt∨k=go∨k=gd) w w':=by
 intro f;induction f with
 |zero=>intro w r ad m ao b q E A;simp[jS]at A
 |succ f bC=>
  intro w r ad m ao b q E A;rw[jS,Kq]at A;have bL:=aa A;have bN:=aa bC;have Q:=aa q;have bO:=aa E;obtain⟨bR,bS,x,-⟩:=q.box;have cc:w.cell? ⟨sb,0,none⟩=some (ag bR n bS):=x.cl 0;have cn:=x.lt;have ch:=q.jw;clear A bC q E x;go_enter Tryz.func183,Tryz.ntmps183;go_wp2_with fail;go_loopw[10,11,17,18,19,20,21,22,23,24,25,26,27,28,29,30,31,32,33,34,35,36,37,38,39,40,41,42,43,44,45,46,47,48,49,50,51,52,53,54,55,56,57,58,59,60,61,62,63,64,65,66,67,68,69,70,71,72,73,74,75,76,77,78,79] (fun _ _ i _ _ _ _ _ _ _ _ _ _ _ _ _ _ _ _ _ _ _ _ _ _ _ _ _ _ _ _ _ _ _ _ _ _ _ _ _ _ _ _ _ _ _ _ _ _ _ _ _ _ _ _ _ _ _ _ _ _ _ _ _ _ wr=>∃(j:Nat) (G:gE),j≤n∧i=af ae j∧iR (gD c u v) n ax aB (jS (gD c u v) n ax aB f) r (mi j (n-j)) G=some (b,ao)∧cB B h wr sb c n gu gv gt go ⟨u,v,G.tq,G.owner⟩∧BR wr h B' gd n G.used∧Tu (fun k=>k=gt∨k=go∨k=gd) w wr) (fun _ _ i _ _ _ _ _ _ _ _ _ _ _ _ _ _ _ _ _ _ _ _ _ _ _ _ _ _ _ _ _ _ _ _ _ _ _ _ _ _ _ _ _ _ _ _ _ _ _ _ _ _ _ _ _ _ _ _ _ _ _ _ _ _ _=>n-(intOf i).toNat);case atStart=>exact⟨0,m,aW _,rfl,bL.out,Q.out,bO.out,Tu.refl _ _⟩
  case round=>
   obtain⟨j,G,ce,rfl,A,q,E,M⟩:=hrel;clear cc;by_cases hj:j<n
   ·rw[show n-j=(n-(j+1))+1 by omega,Fq]at A;have aL:=E.get hj;have aY:=E.fz hj;have a3:=E.lt;obtain⟨bg,bm,x,-⟩:=q.box;have aP:wr.cell? ⟨sb,3,none⟩=some (ag (some ⟨gt,0,none⟩) n n):=x.cl 3;have aQ:wr.cell? ⟨sb,4,none⟩=some (ag (some ⟨go,0,none⟩) n n):=x.cl 4;have aT:=x.lt;have ci:(0:Int)≤(j:Int):=by omega
    have cj:(j:Int)<(n:Int):=by omega
    have cl:(0:Int)≤(r:Int):=by omega
    have cm:(r:Int)<(n:Int):=by omega
    by_cases ak:G.used.getD j false=true
    ·rw[ak]at aL;rw[if_pos (.inl ak)]at A;have ac:=aa A;have O:=aa q;have Y:=aa E;have ab:=aa M;clear A q E M x ak;go_wp2_with fail;go_roundw;case rel=>exact⟨j+1,G,by omega,by go_num,ac.out,O.out,Y.out,ab.out⟩
     case measure=>simp[intOf];omega
    ·have a1:G.used.getD j false=false:=by simpa using ak
     rw[a1]at aL;have ba:=aa (yd q r j ad hj);by_cases aG:gD c u v r j=false
     ·rw[if_pos (.inr aG)]at A;have ac:=aa A;have O:=aa q;have Y:=aa E;have ab:=aa M;have aV:=aa aG;clear A q E M x ak a1 aG;go_wp2_with fail;refine ba.out.mono ?_;rintro e w1 ⟨rfl,b1⟩;rw[show gD c u v r j=false from aV.out];have bH:=aa (O.out.below b1);have bI:=aa (Y.out.tu ((Tu.refl (fun _=>False) wr).below b1) id);have bJ:=aa (ab.out.below b1);clear b1;go_wp2_with fail;go_roundw;case rel=>exact⟨j+1,G,by omega,by go_num,ac.out,bH.out,bI.out,bJ.out⟩
      case measure=>simp[intOf];omega
     ·have bB:gD c u v r j=true:=by simpa using aG
      rw[if_neg (by rintro(e|e);exact ak e;exact aG e)]at A;have ac:=aa A;have O:=aa q;have Y:=aa E;have ab:=aa M;have aV:=aa bB;clear A q E M x ak a1 aG bB aP aQ aT;have cf:gd≠sb:=aX;go_wp2_with fail;refine ba.out.mono ?_;rintro e w1 ⟨rfl,b1⟩;rw[show gD c u v r j=true from aV.out];have q:=O.out.below b1;have E:=Y.out.tu ((Tu.refl (fun _=>False) wr).below b1) id;have M:=ab.out.below b1;have A:=ac.out;clear b1 ac O Y ab aL aY a3;have aL:=E.get hj;have aY:=E.fz hj;have a3:=E.lt;obtain⟨bg,bm,x,-⟩:=q.box;have aP:w1.cell? ⟨sb,3,none⟩=some (ag (some ⟨gt,0,none⟩) n n):=x.cl 3;have aQ:w1.cell? ⟨sb,4,none⟩=some (ag (some ⟨go,0,none⟩) n n):=x.cl 4;have aT:=x.lt;clear x;by_cases am:(j:Int)=aB;·rw[if_pos am]at A;simp only[aC,jg]at A;obtain⟨rfl,rfl⟩:=A;have g1:=kO am;have aZ:=q.rt.get ad;have bT:=q.rt.fz ad;have aj:=q.ro.get hj;have bV:=q.ro.fz hj;simp only at aZ aj;have aN:=q.tu ((Tu.refl (fun k=>k=gd) w1).set (p:=⟨gd,j,none⟩) (.inl rfl) (ay true)) (fun k e=>by subst e;exact⟨bv,aX,bp,bq,aO,aM⟩);have a5:=aa ((aN.rC ad (j:Int)).rD hj (r:Int));have a8:=aa (((E.put hj true).ne aO r (af ae (j:Int))).ne aM j (af ae (r:Int)));have aJ:=aa (((M.set (p:=⟨gd,j,none⟩) (.inl (.inr (.inr rfl))) (ay true)).set (p:=⟨gt,r,none⟩) (.inl (.inl rfl)) (af ae (j:Int))).set (p:=⟨go,j,none⟩) (.inl (.inr (.inl rfl))) (af ae (r:Int)));have a4:=q.bt;have bZ:=q.tq;have cd:=q.rt.lt;have aS:=q.ro.lt;clear q E M aN am;go_wp2_with fail;go_ret;simp only;exact⟨rfl,a5.out,a8.out,aJ.out⟩
      ·rw[if_neg am]at A;have g1:=kK am;have aj:=q.ro.get hj;simp only at aj;by_cases a2:(ax:Int)<ge G.owner j
       ·rw[if_pos a2]at A;split at A;case isTrue=>cases A
        case isFalse bX=>
         obtain⟨o,bz⟩:∃o:Nat,ge G.owner j=o:=⟨(ge G.owner j).toNat,by omega⟩
         have bY:o<n:=by omega
         rw[bz]at A a2 aj;generalize bA:jS (gD c u v) n ax aB f o {G with used:=G.used.set j true}=b0 at A;cases b0 with
         |none=>cases A
         |some p=>
          obtain⟨b2,a4⟩:=p;have aN:=q.tu ((Tu.refl (fun k=>k=gd) w1).set (p:=⟨gd,j,none⟩) (.inl rfl) (ay true)) (fun k e=>by subst e;exact⟨bv,aX,bp,bq,aO,aM⟩);have bd:=aa (bN.out (w1.setCell ⟨gd,j,none⟩ (ay true)) o bY {G with used:=G.used.set j true} a4 b2 aN (E.put hj true) bA);have bG:=aa (M.set (p:=⟨gd,j,none⟩) (.inl (.inr (.inr rfl))) (ay true));have cg:=q.bo;have bZ:go≠gd:=fun e=>aM e.symm;have aS:=q.ro.lt;have a9:=aa A;clear q E M aN am A bA bX bz;go_wp2_with fail;refine bd.out.mono ?_;rintro e w2 ⟨rfl,q,E,bE⟩;have aJ:=bG.out.trans bE;have A:=a9.out;clear bd bG a9 aL aY a3 aP aQ aT aj aS bE;cases b2 with
          |true=>simp only[aC,jg]at A;obtain⟨rfl,rfl⟩:=A;obtain⟨bg,bm,x,-⟩:=q.box;have aP:w2.cell? ⟨sb,3,none⟩=some (ag (some ⟨gt,0,none⟩) n n):=x.cl 3;have aQ:w2.cell? ⟨sb,4,none⟩=some (ag (some ⟨go,0,none⟩) n n):=x.cl 4;have aT:=x.lt;have aZ:=q.rt.get ad;have bT:=q.rt.fz ad;have aj:=q.ro.get hj;have bV:=q.ro.fz hj;simp only at aZ aj;have cd:=q.rt.lt;have aS:=q.ro.lt;have k2:=q.bt;have k3:=q.tq;have a5:=aa ((q.rC ad (j:Int)).rD hj (r:Int));have a8:=aa ((E.ne aO r (af ae (j:Int))).ne aM j (af ae (r:Int)));have b9:=aa ((aJ.set (p:=⟨gt,r,none⟩) (.inl (.inl rfl)) (af ae (j:Int))).set (p:=⟨go,j,none⟩) (.inl (.inr (.inl rfl))) (af ae (r:Int)));clear q E aJ x;go_wp2_with fail;go_ret;simp only;exact⟨rfl,a5.out,a8.out,b9.out⟩
          |false=>
           have ac:=aa A;have O:=aa q;have Y:=aa E;have ab:=aa aJ;clear A q E aJ;go_wp2_with fail;go_roundw;case rel=>exact⟨j+1,a4,by omega,by go_num,ac.out,O.out,Y.out,ab.out⟩
           case measure=>simp[intOf];omega
       ·rw[if_neg a2]at A;have ac:=aa A;have O:=aa q;have Y:=aa E;have ab:=aa M;have aS:=q.ro.lt;clear A q E M am;go_wp2_with fail;go_roundw;case rel=>exact⟨j+1,G,by omega,by go_num,ac.out,O.out,Y.out,ab.out⟩
        case measure=>simp[intOf];omega
   ·obtain rfl:n=j:=by omega
    rw[kH]at A;simp only[Kr,iR,aC,jg]at A;obtain⟨rfl,rfl⟩:=A;have O:=aa q;have Y:=aa E;have ab:=aa M;clear q E M;go_wp2_with fail;go_ret;exact⟨rfl,O.out,Y.out,ab.out⟩
theorem Ft(tight:Int→Int→Bool)(n:Nat)(A:Int)(j k:Nat)(E owner:List Int):kl tight n A (mi j (k+1)) E owner=(if ge owner j<A∨tight A j=false then kl tight n A (mi (j+1) k) E owner else if n≤ge owner j then none else match jS tight n A (ge E A) (n+1) (ge owner j) ⟨(aA n false).set j true,E,owner⟩with
  |none=>none
  |some (true,m)=>some (m.tq.set A.toNat j,m.owner.set j A)
  |some (false,m)=>kl tight n A (mi (j+1) k) m.tq m.owner):=by
 rw[Kp];rfl
theorem Fu{B:Nat}{h:Hp}{w:World}{sb:Nat}{c:List (List Int)}{n gu gv gt go:Nat}{s:fD}(q:cB B h w sb c n gu gv gt go s)(E:Nat)(am:E<n)(s':fD)(aB:mQ c n E s=some s'):Calls ai 144 #[az (some ⟨sb,0,none⟩),af ae E] w fun e w'=>e= .returned (bD #[])∧cB B h w' sb c n gu gv gt go s'∧Tu (fun k=>k=gt∨k=go) w w':=by
 unfold mQ at aB;split at aB;case isFalse=>cases aB
 case isTrue bR=>
 rw[Option.map_eq_some_iff]at aB;obtain⟨p,aY,rfl⟩:=aB;obtain⟨K,aX⟩:∃K:Nat,ge s.tq E=K:=⟨(ge s.tq E).toNat,by omega⟩
 have ce:K≤n:=by omega
 rw[aX,Int.toNat_natCast,Kq]at aY;have bI:=aa aY;have Q:=aa q;obtain⟨b9,cc,x,-⟩:=q.box;have ax:w.cell? ⟨sb,3,none⟩=some (ag (some ⟨gt,0,none⟩) n n):=x.cl 3;have co:=x.lt;have ch:=q.jw;have aj:=q.rt.get am;rw[aX]at aj;have cg:=q.rt.lt;have cl:(0:Int)≤(E:Int):=by omega
 have cm:(E:Int)<(n:Int):=by omega
 clear aY q x bR aX;go_enter Tryz.func144,Tryz.ntmps144;go_wp2_with fail;go_loopw[4,5,6,7,15,16,17,18,19,20,21,22,23,24,25,26,27,28,29,30,31,32,33,34,35,36,37,38,39,40,41,42,43,44,45,46,47,48,49,50,51,52,53,54,55,56,57,58,59,60,61,62,63,64,65,66,67,68,69,70,71] (fun _ _ _ _ i _ _ _ _ _ _ _ _ _ _ _ _ _ _ _ _ _ _ _ _ _ _ _ _ _ _ _ _ _ _ _ _ _ _ _ _ _ _ _ _ _ _ _ _ _ _ _ _ _ _ _ _ _ _ _ _ wr=>∃(j:Nat) (ab Y:List Int),j≤K∧i=af ae j∧kl (gD c s.u s.v) n E (mi j (K-j)) ab Y=some p∧cB B h wr sb c n gu gv gt go ⟨s.u,s.v,ab,Y⟩∧Tu (fun k=>k=gt∨k=go) w wr) (fun _ _ _ _ i _ _ _ _ _ _ _ _ _ _ _ _ _ _ _ _ _ _ _ _ _ _ _ _ _ _ _ _ _ _ _ _ _ _ _ _ _ _ _ _ _ _ _ _ _ _ _ _ _ _ _ _ _ _ _ _ _=>K-(intOf i).toNat);case atStart=>exact⟨0,s.tq,s.owner,aW _,rfl,bI.out,Q.out,Tu.refl _ _⟩
 case round=>
  obtain⟨j,ab,Y,cf,rfl,A,q,O⟩:=hrel;clear ax aj;by_cases hj:j<K
  ·rw[show K-j=(K-(j+1))+1 by omega,Ft]at A;have ad:j<n:=by omega
   obtain⟨aL,aM,x,-⟩:=q.box;have a4:wr.cell? ⟨sb,0,none⟩=some (ag aL n aM):=x.cl 0;have ax:wr.cell? ⟨sb,3,none⟩=some (ag (some ⟨gt,0,none⟩) n n):=x.cl 3;have bB:wr.cell? ⟨sb,4,none⟩=some (ag (some ⟨go,0,none⟩) n n):=x.cl 4;have aP:=x.lt;have aN:=q.ro.get ad;have bE:=q.ro.lt;simp only at aN;have ci:(0:Int)≤(j:Int):=by omega
   have cj:(j:Int)<(n:Int):=by omega
   have cn:(j:Int)<(K:Int):=by omega
   clear x;by_cases aZ:ge Y j<(E:Int)
   ·rw[if_pos (.inl aZ)]at A;have ac:=aa A;have G:=aa q;have M:=aa O;clear A q O;go_wp2_with fail;go_roundw;case rel=>exact⟨j+1,ab,Y,by omega,by go_num,ac.out,G.out,M.out⟩
    case measure=>simp[intOf];omega
   ·have aV:=aa (yd q E j am ad);by_cases ao:gD c s.u s.v E j=false
    ·rw[if_pos (.inr ao)]at A;have ac:=aa A;have G:=aa q;have M:=aa O;have aQ:=aa ao;clear A q O ao;go_wp2_with fail;refine aV.out.mono ?_;rintro e w1 ⟨rfl,b1⟩;rw[show gD c s.u s.v E j=false from aQ.out];have bG:=aa (G.out.below b1);have bH:=aa (M.out.below b1);clear b1;go_wp2_with fail;go_roundw;case rel=>exact⟨j+1,ab,Y,by omega,by go_num,ac.out,bG.out,bH.out⟩
     case measure=>simp[intOf];omega
    ·have bd:gD c s.u s.v E j=true:=by simpa using ao
     rw[if_neg (by rintro(e|e);exact aZ e;exact ao e)]at A;split at A;case isTrue=>cases A
     case isFalse bS=>
     obtain⟨o,a9⟩:∃o:Nat,ge Y j=o:=⟨(ge Y j).toNat,by omega⟩
     have bT:o<n:=by omega
     rw[a9]at A aN aZ;generalize ba:jS (gD c s.u s.v) n E (ge ab E) (n+1) o ⟨(aA n false).set j true,ab,Y⟩=bZ at A;cases bZ with
     |none=>cases A
     |some bV=>
     obtain⟨b2,a1⟩:=bV;have ac:=aa A;have G:=aa q;have M:=aa O;have aQ:=aa bd;have a8:=aa ba;clear A q O ao bd ba bS a9;go_wp2_with fail;refine aV.out.mono ?_;rintro e w1 ⟨rfl,b1⟩;rw[show gD c s.u s.v E j=true from aQ.out];have q:=G.out.below b1;have O:=M.out.below b1;clear b1 G M aV a4 ax bB aP aN bE;obtain⟨aL,aM,x,-⟩:=q.box;have a4:w1.cell? ⟨sb,0,none⟩=some (ag aL n aM):=x.cl 0;have ax:w1.cell? ⟨sb,3,none⟩=some (ag (some ⟨gt,0,none⟩) n n):=x.cl 3;have aj:=q.rt.get am;have bC:=q.rt.lt;have aP:=x.lt;simp only at aj;have G:=aa q;have M:=aa O;clear q O x;go_wp2_with(at_make;refine jk ry rfl _ _ rfl (St.refl G.out.I) ae ae _ _ n rfl rfl (by go_num) (by go_num) (by omega) ?_;intro w2 a3 a2 bO;rw[j7]at a2;have aG:=G.out.below a3.below;have aJ:BR w2 h w1.heap.size w1.heap.size n (aA n false):=(by unfold BR;rw[show dZ (aA n false)=aA n (ay false) by simp[dZ]];exact a2);have bA:=M.out.below a3.below;have aS:=aa aJ;have a5:=aa aG;have aT:=aa bA;have bJ:=aJ.fz ad;have bL:=aJ.get ad;have l2:=aJ.lt;clear a3 a2 bO aG aJ bA);have bp:w1.heap.size≠sb:=by omega
     have bq:w1.heap.size≠gu:=by have:=G.out.ru.lt;omega
     have bv:w1.heap.size≠gv:=by have:=G.out.rv.lt;omega
     have nt:w1.heap.size≠gt:=by have:=G.out.rt.lt;omega
     have bm:w1.heap.size≠go:=by have:=G.out.ro.lt;omega
     have bg:h w1.heap.size=none:=Ow.free aS.out _ rfl;have aG:=a5.out.tu ((Tu.refl (fun k=>k=w1.heap.size) w2).set (p:=⟨w1.heap.size,j,none⟩) (.inl rfl) (ay true)) (fun k e=>by subst e;exact⟨bg,bp,bq,bv,nt,bm⟩);refine(Fs s.u s.v E (ge ab E) bp bq bv nt bm bg (n+1) _ o bT ⟨(aA n false).set j true,ab,Y⟩ a1 b2 aG (aS.out.put ad true) a8.out).mono ?_;rintro e w3 ⟨rfl,q,bY,bz⟩
     have aO:Tu (fun k=>k=gt∨k=go) w w3:=(aT.out.set (p:=⟨w1.heap.size,j,none⟩) (.inr (by have:=aT.out.size;have:=M.out.size;show w.heap.size≤w1.heap.size;omega)) (ay true)).step bz (fun k ak=>by
      rcases ak with ak|ak|ak;·exact .inl (.inl ak)
      ·exact .inl (.inr ak)
      ·subst ak;exact .inr M.out.size)
     have A:=ac.out;clear ac G M aS a5 aT aG a8 bJ bL l2 a4 ax aj bC aP bz bY;cases b2 with
     |true=>simp only[aC]at A;subst A;obtain⟨aL,aM,x,-⟩:=q.box;have ax:w3.cell? ⟨sb,3,none⟩=some (ag (some ⟨gt,0,none⟩) n n):=x.cl 3;have bB:w3.cell? ⟨sb,4,none⟩=some (ag (some ⟨go,0,none⟩) n n):=x.cl 4;have aP:=x.lt;have aj:=q.rt.get am;have aN:=q.rt.fz am;have bN:=q.ro.get ad;have cd:=q.ro.fz ad;simp only at aj bN;have bC:=q.rt.lt;have bE:=q.ro.lt;have k2:=q.bt;have k3:=q.tq;have bX:=aa ((q.rC am (j:Int)).rD ad (E:Int));have b0:=aa ((aO.set (p:=⟨gt,E,none⟩) (.inl (.inl rfl)) (af ae (j:Int))).set (p:=⟨go,j,none⟩) (.inl (.inr rfl)) (af ae (E:Int)));clear q aO x;go_wp2_with fail;refine aF (j0 rfl _ _ _) rfl ?_;simp only;exact⟨trivial,bX.out,b0.out⟩
     |false=>
      have ac:=aa A;have G:=aa q;have M:=aa aO;clear A q aO;go_wp2_with fail;go_roundw;case rel=>exact⟨j+1,a1.tq,a1.owner,by omega,by go_num,ac.out,G.out,M.out⟩
      case measure=>simp[intOf];omega
  ·obtain rfl:K=j:=by omega
   rw[kH]at A;simp only[Kr,kl,aC]at A;subst A;have G:=aa q;have M:=aa O;clear q O;go_wp2_with fail;refine bodyPost_end (j0 rfl _ _ _) rfl ?_;exact⟨rfl,G.out,M.out⟩
theorem oI(c:List (List Int)):jI c=true↔c.length≤40∧∀r∈c,r.length=c.length∧∀x∈r,0≤x∧x≤1048576:=by simp[jI]
def ye(n:Nat)(r:List Int):Prop:=r.length=n∧∀x∈r,0≤x∧x≤1048576
theorem yf{α:Type}{P:α→Prop}{c:List α}{j:Nat}(hj:j<c.length)(h:∀r∈c.take j,P r)(E:P c[j]):∀r∈c.take (j+1),P r:=by
 intro r A;rw[List.take_add_one,List.getElem?_eq_getElem hj]at A;rcases List.mem_append.1 A with A|A;·exact h r A
 ·simp at A;subst A;exact E
theorem uy{c:List (List Int)}{j:Nat}(hj:j<c.length)(h:¬ye c.length c[j]):jI c=false:=by rw[Bool.eq_false_iff];intro e;exact h ((oI c).1 e|>.2 _ (aK hj))
theorem Fv(h:Hp)(w:World)(aL:ao h w)(v:Value)(c:List (List Int))(aN:gP h v c):Calls ai 141 #[v] w fun e w'=>e= .returned (ay (jI c))∧Below w.heap.size w w':=by
 obtain⟨a,a4,rfl,bq,aM⟩:=aN.open;have aT:=aa aM;have ac:=aa aL;clear aN aM aL;by_cases ak:c.length≤40
 case neg=>
  have aZ:¬((c.length:Int)≤40):=by omega
  have bC:(40:Int)<(c.length:Int):=by omega
  have A:Hid (jI c=false):=by unfold Hid jI;rw[decide_eq_false ak,Bool.false_and]
  go_enter Tryz.func141,Tryz.ntmps141;go_wp2_with fail;go_ret;refine⟨?_,aD _ _⟩;rw[A.out];rfl
 case pos=>
  have aZ:¬((40:Int)<(c.length:Int)):=by omega
  have aP:=aa ak;go_enter Tryz.func141,Tryz.ntmps141;go_wp2_with fail;go_loopw[2,4,6,12,13,14,15,16,17,18,19,20,21,22,23,24,25,26,27,28,29,30,31,32,33,34] (fun _ _ _ i _ _ _ _ _ _ _ _ _ _ _ _ _ _ _ _ _ _ _ _ _ _ wr=>∃(j:Nat),j≤c.length∧i=af ae j∧(∀r∈c.take j,ye c.length r)∧wr=w) (fun _ _ _ i _ _ _ _ _ _ _ _ _ _ _ _ _ _ _ _ _ _ _ _ _ _ _=>c.length-(intOf i).toNat);case atStart=>exact⟨0,aW _,rfl,fun k Y=>by simp at Y,rfl⟩
  case round=>
   obtain⟨j,bp,rfl,ax,rfl⟩:=hrel;have ab:=aa ax;clear ax;by_cases hj:j<c.length
   ·obtain⟨b,o,rfl,bd,aB⟩:=aT.out _ ac.out (by omega);obtain⟨a3,a5,a9,am⟩:=aB j hj;have bE:(0:Int)≤(j:Int):=by omega
    have bG:(j:Int)<(c.length:Int):=by omega
    obtain⟨a2,a8,aj,bv,aG⟩:=am.open;simp only[bU,true_and]at aj;obtain⟨rfl,rfl⟩:=aj;have aQ:=aa aG;clear aB am aG;by_cases E:c[j].length=c.length
    ·have g1:((c[j].length:Int)==(c.length:Int))=true:=kO (by omega);have ba:((c[j].length:Int)!=(c.length:Int))=false:=by simp[E]
     have aX:((c[j].length:Int)=(c.length:Int)):=by omega
     have aS:=aa E;clear E;go_wp2_with fail;go_loopw[2,6,23,24,25,26,27,28,29,30,31,32,33] (fun _ _ k _ _ _ _ _ _ _ _ _ _ a1=>∃(i:Nat),i≤c[j].length∧k=af ae i∧(∀x∈c[j].take i,0≤x∧x≤1048576)∧a1=wr) (fun _ _ k _ _ _ _ _ _ _ _ _ _ _=>c[j].length-(intOf k).toNat);case atStart=>exact⟨0,aW _,rfl,fun k Y=>by simp at Y,rfl⟩
     case round=>
      obtain⟨i,bm,rfl,aO,rfl⟩:=hrel;have ad:=aa aO;clear aO;by_cases G:i<c[j].length
      ·obtain⟨b2,bB,rfl,bg,aJ⟩:=aQ.out _ ac.out (by omega);have aV:=aJ i G;have bH:(0:Int)≤(i:Int):=by omega
       have bI:(i:Int)<(c[j].length:Int):=by omega
       clear aJ;generalize M:c[j][i]=x at aV;have O:=aa M;clear M;by_cases bz:x<0;·have A:Hid (jI c=false):=uy hj (fun e=>by have:=e.2 _ (aK G);rw[O.out]at this;omega);go_wp2_with fail;go_ret;refine⟨?_,aD _ _⟩;rw[A.out];rfl
       ·by_cases bA:1048576<x;·have A:Hid (jI c=false):=uy hj (fun e=>by have:=e.2 _ (aK G);rw[O.out]at this;omega);go_wp2_with fail;go_ret;refine⟨?_,aD _ _⟩;rw[A.out];rfl
        ·go_wp2_with fail;go_roundw;case rel=>exact⟨i+1,by omega,by go_num,yf G ad.out (by rw[O.out];omega),trivial⟩
         case measure=>simp[intOf];omega
      ·go_wp2_with fail;go_roundw;case rel=>exact⟨j+1,by omega,by go_num,yf hj ab.out ⟨aS.out,fun x M=>ad.out x (by rw[iG (by omega)];exact M)⟩,trivial⟩
       case measure=>simp[intOf];omega
    ·have g1:((c[j].length:Int)==(c.length:Int))=false:=kK (by omega);have aX:¬((c[j].length:Int)=(c.length:Int)):=by omega
     have A:Hid (jI c=false):=uy hj (fun e=>E e.1);clear E;go_wp2_with fail;go_ret;refine⟨?_,aD _ _⟩;rw[A.out];rfl
   ·have A:Hid (jI c=true):=(oI c).2 ⟨aP.out,fun r aY=>ab.out r (by rw[iG (by omega)];exact aY)⟩;go_wp2_with fail;go_ret;refine⟨?_,aD _ _⟩;rw[A.out];rfl
abbrev tK:=List cU×ByteArray×Int×Int
def mJ(s:ByteArray):Nat→Nat→Nat→List cU→tK
 |0,start,_,l=>(l,s.extract start s.size,0,0)
 |f+1,start,i,l=>
  if i<s.size then
   if hR (bt s i)=true then mJ s f start (i+1) l
   else if(dO (s.extract i s.size)).2.2=0 then
    mJ s f (i+(dO (s.extract i s.size)).2.1.toNat) (i+(dO (s.extract i s.size)).2.1.toNat) (l++[⟨(dO (s.extract i s.size)).1,s.extract start i,s.extract i (i+(dO (s.extract i s.size)).2.1.toNat)⟩])
   else([],⟨#[]⟩,ae.wrap ((i:Int)+(dO (s.extract i s.size)).2.1),(dO (s.extract i s.size)).2.2)
  else(l,s.extract start s.size,0,0)
def oT(s:ByteArray):tK:=mJ s (s.size+1) 0 0 []
def DZ(h:Hp)(w:World)(R:tK)(e:Ending)(w':World):Prop:=
 ∃v,e= .returned (bD #[v,ah R.2.1,af ae R.2.2.1,af ae R.2.2.2])∧∃h',St w.heap.size h w h' w'∧Sl h' v R.1.length 3 (R.1.flatMap ir)∧∃a c,v=ag a R.1.length c∧R.1.length≤c
theorem Ow.cap{w:World}{h:Hp}{B k n c:Nat}{e:TypeId}{a:Option Addr}{xs:List Value}(o:Ow w h B e k (ag a n c) n xs):n≤c:=by
 rcases o.row.2 with⟨O,_⟩|⟨M,E,G,A,Y,ab,ac,_⟩;·omega
 ·simp only[bU,true_and]at A;omega
theorem D0(l:List cU):(l.flatMap ir).length=l.length*3:=by
 induction l with
 |nil=>rfl
 |cons a l A=>rw[fH,List.length_append,A,bF];simp[ir];omega
theorem D1(h:Hp)(w:World)(aJ:ao h w)(s:ByteArray)(bB:s.size≤4096)(aG:∀i,i<s.size→bt s i≠35):Calls ai 43 #[ah s] w (DZ h w (oT s)):=by
 generalize ax:oT s=R;have aQ:=aa ax;have aO:=aa aG;have aP:=aa aJ;clear ax aG aJ;have a9:decide (4096<s.size)=false:=by simp;omega
 have ba:¬4096<s.size:=by omega
 go_enter Tryz.func43,Tryz.ntmps43;go_wp2_with fail;go_step3;go_wp2_with fail;go_step3;go_wp2_with fail;go_loopw[2,3,4,5,6,7,8,9,10,14,15,16,17,18,19,20,21,22,23,24,25,26,27,28,29,30,31,32,33,34,35,36,37,38,39,40,41,42,43,44,45,46,47,48,49,50,51,52,53,54,55,56,57,58,59,60,61,62,63,64,65,66,67,68,69,70,71,72,73,74,75,76] (fun v _ _ _ st i _ _ _ _ _ _ _ _ _ _ _ _ _ _ _ _ _ _ _ _ _ _ _ _ _ _ _ _ _ _ _ _ _ _ _ _ _ _ _ _ _ _ _ _ _ _ _ _ _ _ _ _ _ _ _ _ _ _ _ _ _ _ _ _ _ _ wr=>∃(a n:Nat) (l:List cU) (f:Nat),a≤n∧n≤s.size∧st=af ae a∧i=af ae n∧s.size-n<f∧Hid (mJ s f a n l=R)∧l.length≤n∧St w.heap.size h w h wr∧Ow wr h w.heap.size 95 3 v l.length (l.flatMap ir)) (fun _ _ _ _ _ i _ _ _ _ _ _ _ _ _ _ _ _ _ _ _ _ _ _ _ _ _ _ _ _ _ _ _ _ _ _ _ _ _ _ _ _ _ _ _ _ _ _ _ _ _ _ _ _ _ _ _ _ _ _ _ _ _ _ _ _ _ _ _ _ _ _ _=>s.size-(intOf i).toNat);case atStart=>exact⟨0,0,[],s.size+1,an _,aW _,rfl,rfl,by omega,aQ,aW _,St.refl aP.out,Ow.nil _ _ _ _ _⟩
 case round=>
  obtain⟨a,n,l,f,bg,bz,rfl,rfl,bp,am,bq,S,Y⟩:=hrel;obtain⟨av,ak,rfl⟩:=Y.shape;obtain⟨f,rfl⟩:∃k,f=k+1:=⟨f-1,by omega⟩
  have M:=aa S;have G:=aa Y
  have A:Hid ((if n<s.size then
   if hR (bt s n)=true then mJ s f a (n+1) l
   else if(dO (s.extract n s.size)).2.2=0 then
    mJ s f (n+(dO (s.extract n s.size)).2.1.toNat) (n+(dO (s.extract n s.size)).2.1.toNat) (l++[⟨(dO (s.extract n s.size)).1,s.extract a n,s.extract n (n+(dO (s.extract n s.size)).2.1.toNat)⟩])
   else([],⟨#[]⟩,ae.wrap ((n:Int)+(dO (s.extract n s.size)).2.1),(dO (s.extract n s.size)).2.2)
   else(l,s.extract a s.size,0,0))=R):=am.out
  clear am S Y;by_cases E:n<s.size
  ·have bE:(0:Int)≤(n:Int):=by omega
   have bG:(n:Int)<(s.size:Int):=by omega
   have bH:(n:Int)≤(s.size:Int):=by omega
   have a8:((s[n]'E).toNat:Int)=bt s n:=ei E;have hz:(s.extract n s.size).size=s.size-n:=by rw[extract_size];omega
   have a2:=aO.out n E;have bC:(bt s n==35)=false:=by simpa using a2
   generalize aL:hR (bt s n)=a5 at*;have aS:=aa aL;clear aL;go_wp2_with fail;refine(wZ _ _).mono ?_;rintro e w1 ⟨rfl,rfl⟩;rw[aS.out];cases a5
   ·go_wp2_with fail;refine(xz _ _ (by omega) (by omega)).mono ?_;rintro e w1 ⟨rfl,rfl⟩;have ac:=DY (s.extract n s.size) (by omega);generalize a1:dO (s.extract n s.size)=t at*;obtain⟨aj,tn,te⟩:=t;by_cases ad:te=0
    ·subst ad;have aB:=ac rfl;dsimp only at aB;obtain⟨m,rfl⟩:∃m:Nat,tn=(m:Int):=⟨tn.toNat,by omega⟩
     have bv:1≤m∧n+m≤s.size:=by omega
     have bI:(n:Int)+(m:Int)≤(s.size:Int):=by omega
     have bJ:(n:Int)≤(n:Int)+(m:Int):=by omega
     have a3:(0:Int)≤(a:Int):=by omega
     have a4:(a:Int)≤(n:Int):=by omega
     have q1:ae.wrap ((n:Int)+(m:Int))=(n:Int)+(m:Int):=bA (by omega);have aZ:(l.length+1)*40≤140737488355328:=by omega
     have O:Hid (mJ s f (n+m) (n+m) (l++[⟨aj,s.extract a n,s.extract n (n+m)⟩])=R):=by have:=A.out;rw[if_pos E,if_neg (by simp),if_pos rfl]at this;exact this
     clear A ac aB a1;go_wp2_with fail;go_region_law(first|(refine gS xk (by rfl) _ _ (by rfl) ((M.out.alloc _).drewN _) _ l.length (l.flatMap ir) (by rfl) ((Ow.alloc G.out _).drewN _) ⟨wr.heap.size,0,none⟩ 1 1 [af ae aj,ah (s.extract a n),ah (s.extract n (n+m))] (by rfl) (by rfl) (cK _ _ _ _ (by simp)) (cm _ rfl) (by omega) aZ ?_;intro bd cg bL aN aM aY aX;have aV:=aa aN;have aT:=aa aM;clear aN aM aY aX))
     all_goals
      go_wp2_with fail;go_roundw;case rel=>exact⟨n+m,n+m,l++[⟨aj,s.extract a n,s.extract n (n+m)⟩],f,an _,by omega,by go_num,by go_num,by omega,O,by simp;omega,aV.out,by simpa[ir]using aT.out⟩
      case measure=>simp[intOf];omega
    ·have ab:R=([],⟨#[]⟩,ae.wrap ((n:Int)+tn),te):=by have:=A.out;rw[if_pos E,if_neg (by simp),if_neg ad]at this;exact this.symm
     have bm:(te !=0)=true:=by simpa using ad
     subst ab;clear A ac;go_wp2_with fail;refine aF (v:=bD #[ag none 0 0,ah ⟨#[]⟩,af ae (ae.wrap ((n:Int)+tn)),af ae te]) (by simp[aH,Tryz.results43,go_sem,wrap64,IntKind.wrap_i64]) rfl ?_;exact⟨_,rfl,h,M.out,Sl.nil _ _ _ _,none,0,rfl,aW _⟩
   ·have O:Hid (mJ s f a (n+1) l=R):=by have:=A.out;rw[if_pos E,if_pos rfl]at this;exact this
    clear A;go_wp2_with fail;go_roundw;case rel=>exact⟨a,n+1,l,f,by omega,by omega,rfl,by go_num,by omega,O,by omega,M.out,G.out⟩
    case measure=>simp[intOf];omega
  ·have ab:R=(l,s.extract a s.size,0,0):=by have:=A.out;rw[if_neg E]at this;exact this.symm
   have a3:(0:Int)≤(a:Int):=by omega
   have a4:(a:Int)≤(s.size:Int):=by omega
   subst ab;clear A;go_wp2_with fail;go_region_law(fail)
   all_goals
    go_wp2_with fail;refine aF (v:=bD #[ag av l.length ak,ah (s.extract a s.size),af ae 0,af ae 0]) (by simp[aH,Tryz.results43,go_sem]) rfl ?_;exact⟨_,rfl,_,(M.out.drewN _).fr,(G.out.drewN _).sl (by omega),av,ak,rfl,G.out.cap⟩
theorem Has.hU{w:World}{b:Nat}{c:Array Value}(x:Has w b c)(i:Nat)(A:i<c.size)(v:Value):Has (w.setCell ⟨b,i,none⟩ v) b (c.setIfInBounds i v):=by
 refine⟨by simpa[ef]using x.lt,fun o=> ?_,fun o=>by have:=x.fz o;simp[this]⟩;by_cases e:o=i;·subst e;rw[World.cell?_setCell_same _ _ _ ((x.cl o).trans (Array.getElem?_eq_getElem A))];simp[A]
 ·rw[World.cell?_setCell_other _ _ _ _ (by simp),x.cl o];rw[Array.getElem?_setIfInBounds_ne (fun h=>e h.symm)]
structure bJ(h:Hp)(w:World)(p:Nat)(ts:List cU):Prop where
 no:h p=none
 row:∃(a:Option Addr) (c:Nat) (off sz at':Int),Has w p #[ag a ts.length c,af ae off,af ae sz,af ae 0,af ae at']∧ts.length≤c∧Sl h (ag a ts.length c) ts.length 3 (ts.flatMap ir)
structure bB(p:Nat)(h:Hp)(w:World)(h':Hp)(w':World):Prop where
 gr:w.grownBy w' (some p)
 I:ao h' w'
 le:h.le h'
 aI:∀b,b<w.heap.size→h' b=h b
section
variable {p:Nat} {h h1 h2:Hp} {w w1 w2:World} {ts:List cU}
theorem bB.refl(A:ao h w):bB p h w h w:=⟨kC _ _,A,Hp.le_refl _,fun _ _=>rfl⟩
theorem bB.call(s:bB p h w h1 w1)(t:bB p h1 w1 h2 w2):bB p h w h2 w2:=
 ⟨kc s.gr t.gr (fun _k E=> .inl E),t.I,Hp.le_trans s.le t.le,fun b A=>(t.aI b (bK A s.gr.size)).trans (s.aI b A)⟩
theorem bB.alloc(s:bB p h w h1 w1)(o:Obj):bB p h w h1 (w1.alloc o):=⟨mD s.gr o,s.I.alloc o,s.le,s.aI⟩
theorem bB.drewN(s:bB p h w h1 w1)(n:Nat):bB p h w h1 (w1.drewN n):=⟨⟨s.gr.os,s.gr.tape,s.gr.output,s.gr.size,s.gr.block⟩,s.I,s.le,s.aI⟩
theorem bB.drew(s:bB p h w h1 w1):bB p h w h1 w1.drew:=⟨⟨s.gr.os,s.gr.tape,s.gr.output,s.gr.size,s.gr.block⟩,s.I,s.le,s.aI⟩
theorem bB.set(s:bB p h w h1 w1){q:Addr}(A:w.heap.size≤q.block∨q.block=p)(G:h1 q.block=none)(v:Value):bB p h w h1 (w1.setCell q v):=
 ⟨pJ s.gr (by rcases A with A|A;exact .inr A;exact .inl (by rw[A])) v,s.I.U fun b c E=>cH _ _ _ _ (fun e=>by subst e;rw[G]at E;cases E),s.le,s.aI⟩
theorem bB.size(s:bB p h w h1 w1):w.heap.size≤w1.heap.size:=s.gr.size
theorem bB.below(E:ao h w)(A:Below w.heap.size w w1):bB p h w h w1:=
 ⟨⟨A.os,A.tape,A.output,A.size,fun b G _=>A.block b G⟩,E.below A,Hp.le_refl _,fun _ _=>rfl⟩
theorem bB.add(s:bB p h w h1 w1){b:Nat}{c:Array Value}(M:w.heap.size≤b)(G:h1 b=none)(A:bi w1 b=some c):bB p h w (h1.add b c) w1:=
 ⟨s.gr,s.I.add A,Hp.le_trans s.le (Hp.eG _ G),fun k E=>by unfold Hp.add;rw[if_neg (by omega)];exact s.aI k E⟩
theorem Has.gW{b:Nat}{c:Array Value}(x:Has w b c)(s:bB p h w h1 w1)(A:b≠p):Has w1 b c:=by have e:=s.gr.block b x.lt (fun e=>A (aU e));exact⟨bK x.lt s.gr.size,fun q=>(dc (a:=⟨b,q,none⟩) e).trans (x.cl q),fun q=>(kG (a:=⟨b,q,none⟩) e).trans (x.fz q)⟩
theorem bJ.lt(q:bJ h w p ts):p<w.heap.size:=by obtain⟨_,_,_,_,_,x,_⟩:=q.row;exact x.lt
theorem bJ.U(q:bJ h w p ts)(A:w1.heap[p]? =w.heap[p]?)(Y:w.heap.size≤w1.heap.size)(M:h.le h1)(O:h1 p=none):bJ h1 w1 p ts:=by obtain⟨a,c,ab,ac,E,x,G,s⟩:=q.row;exact⟨O,a,c,ab,ac,E,⟨bK x.lt Y,fun o=>(dc (a:=⟨p,o,none⟩) A).trans (x.cl o),fun o=>(kG (a:=⟨p,o,none⟩) A).trans (x.fz o)⟩,G,s.mono M⟩
theorem bJ.alloc(q:bJ h w p ts)(o:Obj):bJ h (w.alloc o) p ts:=q.U (Below.heap_alloc _ _ _ q.lt) (by simp) (Hp.le_refl _) q.no
theorem bJ.drewN(q:bJ h w p ts)(n:Nat):bJ h (w.drewN n) p ts:=q.U rfl (an _) (Hp.le_refl _) q.no
theorem bJ.drew(q:bJ h w p ts):bJ h w.drew p ts:=q.U rfl (an _) (Hp.le_refl _) q.no
theorem bJ.set(q:bJ h w p ts){a:Addr}(A:a.block≠p)(v:Value):bJ h (w.setCell a v) p ts:=q.U (cH _ _ _ _ (fun e=>A e.symm)) (by simp[ef]) (Hp.le_refl _) q.no
theorem bJ.below(q:bJ h w p ts)(A:Below w.heap.size w w1):bJ h w1 p ts:=q.U (A.block p q.lt) A.size (Hp.le_refl _) q.no
theorem bJ.tok{t:cU}(q:bJ h w p (t::ts))(ad:ao h w):∃(b o c:Nat) (O Y E:Int),Has w p #[ag (some ⟨b,o,none⟩) (ts.length+1) c,af ae O,af ae Y,af ae 0,af ae E]∧ts.length+1≤c∧b<w.heap.size∧b≠p∧w.cell? ⟨b,o,none⟩=some (af ae t.kind)∧w.cell? ⟨b,o+1,none⟩=some (ah t.lead)∧w.cell? ⟨b,o+2,none⟩=some (ah t.text)∧ts.length+1≤140737488355328∧∀a' c',(ts=[]∨a'=some ⟨b,o+3,none⟩)→Sl h (ag a' ts.length c') ts.length 3 (ts.flatMap ir):=by
 obtain⟨a,c,O,Y,E,x,am,aB,c1,ab,h1,h2,G⟩:=q.row;simp only[bU,bF,true_and]at ab;obtain⟨rfl,rfl⟩:=ab;rcases G with G|⟨b,o,cs,rfl,A,ac⟩;·simp at G
 ·have M:∀i v,i<(ts.length+1)*3→((t::ts).flatMap ir)[i]? =some v→w.cell? ⟨b,o+i,none⟩=some v:=fun i v aj ax=>by rw[pH (ad b cs A),ac i aj,ax]
  refine⟨b,o,c,O,Y,E,x,am,cD (ad b cs A),fun e=>(by rw[e,q.no]at A;cases A),M 0 _ (by omega) rfl,M 1 _ (by omega) rfl,M 2 _ (by omega) rfl,h1,fun a' c' ak=> ?_⟩;rcases ak with rfl|rfl;·exact Sl.nil _ _ _ _
  ·refine⟨_,_,rfl,by(simp only[bF]at h1;omega),D0 ts,.inr ⟨b,o+3,cs,rfl,A,fun i aj=> ?_⟩⟩;have:=ac (i+3) (by simp;omega);rw[show o+3+i=o+(i+3) by omega,this,fH,List.getElem?_append_right (by simp[ir])];rfl
end
theorem mU(h:Hp)(w:World)(E:ao h w)(p:Nat)(t:cU)(ts:List cU)(q:bJ h w p (t::ts)):Calls ai 92 #[az (some ⟨p,0,none⟩)] w fun e w'=>e= .returned (aq #[af ae t.kind,ah t.lead,ah t.text])∧Below w.heap.size w w':=by
 obtain⟨b,o,c,ac,aj,G,x,A,M,O,ab,k1,k2,Y,-⟩:=q.tok E;have aB:=x.lt;have ad:w.cell? ⟨p,0,none⟩=some (ag (some ⟨b,o,none⟩) (ts.length+1) c):=x.cl 0;have ak:((ts.length:Int)+1==0)=false:=by simp;omega
 have am:¬(ts.length:Int)+1=0:=by omega
 have ax:(0:Int)<(ts.length:Int)+1:=by omega
 clear x A q;go_enter Tryz.func92,Tryz.ntmps92;go_wp2_with fail;refine aF (v:=aq #[af ae t.kind,ah t.lead,ah t.text]) (by simp[aH,Tryz.results92,go_sem]) rfl ⟨rfl,?_⟩;exact(aD _ _).alloc (an _) _
theorem Gt(h:Hp)(w:World)(_hi:ao h w)(p:Nat)(q:bJ h w p []):Calls ai 92 #[az (some ⟨p,0,none⟩)] w fun e w'=>e= .returned (aq #[af ae 0,ah ⟨#[]⟩,ah ⟨#[]⟩])∧Below w.heap.size w w':=by obtain⟨a,c,G,O,E,x,A,-⟩:=q.row;have Y:=x.lt;have M:w.cell? ⟨p,0,none⟩=some (ag a 0 c):=x.cl 0;clear x A q;go_enter Tryz.func92,Tryz.ntmps92;go_wp2_with fail;refine aF (v:=aq #[af ae 0,ah ⟨#[]⟩,ah ⟨#[]⟩]) (by simp[aH,Tryz.results92,go_sem]) rfl ⟨rfl,?_⟩;exact(aD _ _).alloc (an _) _
theorem qg(h:Hp)(w:World)(G:ao h w)(p:Nat)(t:cU)(ts:List cU)(q:bJ h w p (t::ts)):Calls ai 131 #[az (some ⟨p,0,none⟩)] w fun e w'=>e= .returned (aq #[af ae t.kind,ah t.lead,ah t.text])∧bB p h w h w'∧bJ h w' p ts:=by
 obtain⟨b,o,c,am,A,Y,x,aM,aJ,aL,aO,k1,k2,aN,O⟩:=q.tok G;have a4:=x.lt;have aS:w.cell? ⟨p,0,none⟩=some (ag (some ⟨b,o,none⟩) (ts.length+1) c):=x.cl 0;have aT:w.cell? ⟨p,1,none⟩=some (af ae am):=x.cl 1;have aV:w.cell? ⟨p,2,none⟩=some (af ae A):=x.cl 2;have aB:=x.fz 0;have aG:=x.fz 1;have X:=aa x;have Q:=aa q;have E:=aa G;have aX:(0:Int)<(ts.length:Int)+1:=by omega
 have aY:(1:Int)≤(ts.length:Int)+1:=by omega
 have aZ:(ts.length:Int)+1≤(c:Int):=by omega
 have a1:(1:Int)≤(c:Int):=by omega
 clear x q G;cases ts with
 |nil=>
  have ad:Hid (∀(a':Option Addr) (c':Nat),Sl h (ag a' 0 c') 0 3 []):=fun a' c'=>Sl.nil _ _ _ _;simp only[List.length_nil]at*;by_cases ak:c=1
  all_goals
   go_enter Tryz.func131,Tryz.ntmps131;go_wp2_with fail;refine aF (v:=aq #[af ae t.kind,ah t.lead,ah t.text]) (by simp[aH,KE,go_sem]) rfl ⟨rfl,?_,?_⟩;·exact((((bB.refl E.out).set (q:=⟨p,0,none⟩) (.inr rfl) Q.out.no _).set (q:=⟨p,1,none⟩) (.inr rfl) Q.out.no _).alloc _).alloc _
   ·exact⟨Q.out.no,_,_,A,A,Y,((((X.out.hU 0 (by simp) _).hU 1 (by simp) _).alloc _).alloc _),by simp,ad.out _ _⟩
 |cons ax r=>
  have M:=O (some ⟨b,o+3,none⟩) (c-1) (.inr rfl);obtain⟨b',aQ,ab,-,ac⟩:=M.cells E.out (by simp);simp only[aC,cx,and_true]at ab;obtain⟨rfl,rfl⟩:=ab;have aP:w.cell? ⟨b,o+3+1,none⟩=some (ah ax.lead):=ac 1 _ rfl;have aj:=aa M;simp only[bF]at*;have ak:¬c=1:=by omega
  have a2:¬((r.length:Int)+1=0):=by omega
  have a3:(0:Int)<(r.length:Int)+1:=by omega
  clear ac M O;go_enter Tryz.func131,Tryz.ntmps131;go_wp2_with fail;refine wp_region_still_tail 19 (by kernel_rfl) (by kernel_rfl) ?_;simp only[List.take_succ_cons,List.take_zero,List.drop_succ_cons,List.drop_zero];change wpStill _ _ (dd _) (fun a'=>wpList _ _ _ _ a' (dd _)) _ _;repeat still_step
  refine wpStill_nil ?_;go_wp2_with fail;refine aF (v:=aq #[af ae t.kind,ah t.lead,ah t.text]) (by simp[aH,KE,go_sem]) rfl ⟨rfl,?_,?_⟩;·exact(((((bB.refl E.out).set (q:=⟨p,0,none⟩) (.inr rfl) Q.out.no _).set (q:=⟨p,1,none⟩) (.inr rfl) Q.out.no _).alloc _).alloc _).drew
  ·exact⟨Q.out.no,some ⟨b,o+3,none⟩,c-1,_,A,Y,(((((X.out.hU 0 (by simp) _).hU 1 (by simp) _).alloc _).alloc _).drew),by simp;omega,aj.out⟩
end Go.Proofs.YtdplggpbgommnaaGreatDoor
