/- assign.Solve ends at whatever square of numbers, and each row gets a column of its own. -/
import Derived.Test.YtdplggpbgommnaaGreatDoorG02
import Derived.Test.YtdplggpbgommnaaGreatDoorG05
open Classical renaming byContradiction→Ko
open Go.ByteArray renaming toList_eq→eT
open Go.Ending renaming returned→BF
open Go.IntKind renaming i64→ae
open Go.Lib renaming hid→aa
open Go.Proofs.Tryz renaming prog→ai
open Go.Value renaming int→af,string→ah
open Int renaming toNat_natCast→dy
open List renaming foldl_append→dH,foldl_cons→dK,foldl_nil→fk,getD_eq_getElem?_getD→bb,getElem?_set→vV,mem_append_right→vK,mem_cons_of_mem→cW,mem_cons_self→eu,mem_cons→b8,mem_range→ee,nodup_cons→ny,range_succ→dx,range→aw,replicate→aA
open Nat renaming le_refl→an
set_option maxRecDepth 100000
set_option maxHeartbeats 4000000
namespace Go.Proofs.YtdplggpbgommnaaGreatDoor
open Go.RowKit
theorem x9(l:List Int)(k:Nat)(v:Int)(i:Nat):ge (l.set k v) i=if i=k∧k<l.length then v else ge l i:=by
 simp only[ge,dy,bb,vV];by_cases h:k=i
 ·subst h;by_cases h2:k<l.length;·simp[h2]
  ·simp[h2]
 ·have:¬i=k:=fun e=>h e.symm;simp[h,this]
theorem fh(l:List Int)(k:Nat)(v:Int)(h:k<l.length):ge (l.set k v) k=v:=by rw[x9,if_pos ⟨rfl,h⟩]
theorem en(l:List Int)(k:Nat)(v:Int)(i:Nat)(h:i≠k):ge (l.set k v) i=ge l i:=by rw[x9,if_neg (fun e=>h e.1)]
structure Cons(n k:Nat)(tq owner:List Int):Prop where
 lt:tq.length=n
 lo:owner.length=n
 a:∀i:Nat,i<k→∃j:Nat,j<n∧ge tq i=j∧ge owner j=i
 b:∀j:Nat,j<n→ge owner j= -1∨∃i:Nat,i<k∧ge owner j=i∧ge tq i=j
structure um(n k col:Nat)(tq owner:List Int):Prop where
 lt:tq.length=n
 lo:owner.length=n
 a:∀i:Nat,i<k→∃j:Nat,j<n∧ge tq i=j∧ge owner j=i∧j≠col
 b:∀j:Nat,j<n→j≠col→ge owner j= -1∨∃i:Nat,i<k∧ge owner j=i∧ge tq i=j
def uq(src owner:List Int)(k:Nat)(D:List Nat)(d:Nat):Prop:=ge src d=k∨∃e∈D,ge src d=ge owner e∧0≤ge owner e
def iy(src owner:List Int)(k:Nat):List Nat→Prop
 |[]=>True
 |d::ds=>uq src owner k ds d∧iy src owner k ds
theorem iy.mono{G owner M E:List Int}{k:Nat}:∀{D:List Nat},(∀d∈D,ge M d=ge G d∧ge E d=ge owner d)→iy G owner k D→iy M E k D
 |[],_,_=>trivial
 |d::ds,h,p=>by
  refine⟨?_,iy.mono (fun e A=>h e (cW _ A)) p.2⟩;rcases p.1 with q|⟨e,A,q⟩;·exact .inl (by rw[(h d eu).1];exact q)
  ·exact .inr ⟨e,A,by rw[(h d eu).1,(h e (cW _ A)).2];exact q⟩
theorem iy.tail{E owner:List Int}{k:Nat}:∀{G:List Nat} {A:List Nat},iy E owner k (G++A)→iy E owner k A
 |[],_,p=>p
 |_::_,_,p=>iy.tail p.2
theorem ya{n k:Nat}(ak:k<n){G:List Int}(ad:G.length=n)(f:Nat)(A:Nat)(O owner:List Int)(aj:0<f)(H:um n k A O owner)(E:A<n)(q:ge G A=k):∃Y M,k0 k G f A O owner=some (Y,M)∧Cons n (k+1) Y M:=by
 obtain⟨f,rfl⟩:∃g,f=g+1:=⟨f-1,by omega⟩
 refine⟨_,_,by unfold k0;rw[if_pos ⟨by omega,by rw[ad];omega,by omega,by rw[q,H.lt];omega⟩];simp only[q,if_true];rfl,?_⟩;simp only[dy];refine⟨by simp[H.lt],by simp[H.lo],fun i ac=> ?_,fun j hj=> ?_⟩
 ·by_cases x:i=k;·subst x;exact⟨A,E,fh _ _ _ (by rw[H.lt];omega),fh _ _ _ (by rw[H.lo];exact E)⟩
  ·obtain⟨j,hj,h1,h2,ab⟩:=H.a i (by omega);exact⟨j,hj,by rw[en _ _ _ _ x];exact h1,by rw[en _ _ _ _ ab];exact h2⟩
 ·by_cases x:j=A;·subst x;exact .inr ⟨k,by omega,fh _ _ _ (by rw[H.lo];exact E),fh _ _ _ (by rw[H.lt];omega)⟩
  ·rw[en _ _ _ _ x];rcases H.b j hj x with h1|⟨i,ac,h1,h2⟩;·exact .inl h1
   ·exact .inr ⟨i,by omega,h1,by rw[en _ _ _ _ (by omega)];exact h2⟩
theorem E9{n k:Nat}(aG:k<n){ao:List Int}(am:ao.length=n):∀(m f:Nat) (D:List Nat) (A:Nat) (M owner:List Int),D.length≤m→D.length<f→um n k A M owner→A<n→(∀d∈D,d<n)→(A::D).Nodup→iy ao owner k (A::D)→∃aM aL,k0 k ao f A M owner=some (aM,aL)∧Cons n (k+1) aM aL:=by
 intro m;induction m with
 |zero=>intro f D A M owner aQ aB H E _ _ ab;obtain rfl:D=[]:=List.eq_nil_of_length_eq_zero (by omega);exact ya aG am f A M owner aB H E (by rcases ab.1 with q|⟨e,G,_⟩;exact q;cases G)
 |succ m aT=>
  intro f D A M owner aQ aB H E ad ak ab;rcases ab.1 with q|⟨e,G,q,aZ⟩;·exact ya aG am f A M owner (by omega) H E q
  ·obtain⟨f,rfl⟩:∃g,f=g+1:=⟨f-1,by omega⟩
   have aJ:e≠A:=fun x=>by have:=(ny.1 ak).1;exact this (x▸G)
   obtain⟨ax,O,rfl⟩:=List.append_of_mem G;rcases H.b e (ad e G) aJ with q1|⟨i,aP,q1,aV⟩;·omega
   ·rw[q1]at q;unfold k0;rw[if_pos ⟨by omega,by rw[am];omega,by omega,by rw[q,H.lt];omega⟩];simp only[q];rw[if_neg (by omega),aV];simp only[dy];have aY:(ax++e::O).length=ax.length+(O.length+1):=by simp
    have aS:(e::O).Nodup:=((ny.1 ak).2.sublist (List.sublist_append_right _ _))
    have aO:∀d∈e::O,d≠A:=fun d Y x=>(ny.1 ak).1 (by rw[←x];exact vK _ Y);refine aT f O e _ _ (by omega) (by omega) ?_ (ad e G) (fun d Y=>ad d (vK _ (cW _ Y))) aS ?_
    ·refine⟨by simp[H.lt],by simp[H.lo],fun ac aj=> ?_,fun j hj aX=> ?_⟩
     ·by_cases x:ac=i;·subst x;exact⟨A,E,fh _ _ _ (by rw[H.lt];omega),fh _ _ _ (by rw[H.lo];exact E),fun y=>aJ y.symm⟩
      ·obtain⟨j,hj,h1,h2,aN⟩:=H.a ac aj;refine⟨j,hj,by rw[en _ _ _ _ x];exact h1,by rw[en _ _ _ _ aN];exact h2,fun y=> ?_⟩;subst y;omega
     ·by_cases x:j=A;·subst x;exact .inr ⟨i,aP,fh _ _ _ (by rw[H.lo];exact E),fh _ _ _ (by rw[H.lt];omega)⟩
      ·rw[en _ _ _ _ x];rcases H.b j hj x with h1|⟨ac,aj,h1,h2⟩;·exact .inl h1
       ·refine .inr ⟨ac,aj,h1,?_⟩;rw[en _ _ _ _ (fun y=>by subst y;omega)];exact h2
    ·exact iy.mono (fun d Y=>⟨rfl,en _ _ _ _ (aO d Y)⟩) (iy.tail ab.2)
theorem hX{α A:Type}{P:A→Prop}{f:A→α→A}:∀(l:List α) (b:A),P b→(∀b,∀x∈l,P b→P (f b x))→P (l.foldl f b)
 |[],_,h,_=>h
 |x::l,b,h,E=>hX l (f b x) (E b x eu h) fun b y hy=>E b y (cW _ hy)
structure lf(n:Nat)(a:eB):Prop where
 u:a.u.length=n
 v:a.v.length=n
 c7:a.c7.length=n
 src:a.src.length=n
 done:a.done.length=n
theorem Fa{n:Nat}{owner:List Int}{delta:Int}(a0:eB)(M:lf n a0)(Y:∀j:Nat,j<n→a0.done.getD j false=true→0≤ge owner j∧ge owner j<n):∃A,(aw n).foldl (kZ owner delta) (some a0)=some A∧lf n A∧A.src=a0.src∧A.done=a0.done:=by
 refine hX (P:=fun s=>∃A,s=some A∧lf n A∧A.src=a0.src∧A.done=a0.done) _ _ ⟨a0,rfl,M,rfl,rfl⟩ ?_;rintro _ j hj ⟨A,rfl,l,G,E⟩;have O:j<n:=by simpa using hj
 simp only[kZ];by_cases h:A.done.getD j false=true;·have:=Y j O (by rw[←E];exact h);rw[if_pos h,if_pos ⟨this.1,by rw[l.u];exact this.2⟩];exact⟨_,rfl,⟨by simp[l.u],by simp[l.v],l.c7,l.src,l.done⟩,G,E⟩
 ·rw[if_neg h];exact⟨_,rfl,⟨l.u,l.v,by simp[l.c7],l.src,l.done⟩,G,E⟩
theorem Fb{n:Nat}{c:List (List Int)}{r:Nat}(a0:eB)(Y:lf n a0):let A:=(aw n).foldl (iQ c r) a0
  lf n A∧A.done=a0.done∧A.u=a0.u∧A.v=a0.v∧(∀j:Nat,a0.done.getD j false=true→ge A.src j=ge a0.src j)∧∀j:Nat,j<n→ge A.src j=ge a0.src j∨ge A.src j=r:=by
 refine hX (P:=fun A=>lf n A∧A.done=a0.done∧A.u=a0.u∧A.v=a0.v∧(∀j:Nat,a0.done.getD j false=true→ge A.src j=ge a0.src j)∧∀j:Nat,j<n→ge A.src j=ge a0.src j∨ge A.src j=r) _ _ ⟨Y,rfl,rfl,rfl,fun _ _=>rfl,fun _ _=> .inl rfl⟩ ?_;rintro A j hj ⟨l,G,M,O,h1,h2⟩;have ab:j<n:=by simpa using hj
 simp only[iQ];split
 ·rename_i h;refine⟨⟨l.u,l.v,by simp[l.c7],by simp[l.src],l.done⟩,G,M,O,fun k E=> ?_,fun k E=> ?_⟩;·rw[en _ _ _ _ (fun x=>by subst x;rw[G]at h;rw[E]at h;cases h.1)];exact h1 k E
  ·by_cases x:k=j;·subst x;exact .inr (fh _ _ _ (by rw[l.src];exact E))
   ·simp only[en _ _ _ _ x];exact h2 k E
 ·exact⟨l,G,M,O,h1,h2⟩
theorem Fc{n:Nat}(a:eB){j:Nat}(hj:j<n)(A:a.done.getD j false=false):∃k:Nat,p5 a n=k∧k<n∧a.done.getD k false=false:=by
 have O:∀m,m≤n→((aw m).foldl (e1 a) (-1)= -1∧(∀i,i<m→a.done.getD i false=true))∨∃k:Nat,(aw m).foldl (e1 a) (-1)=k∧k<n∧a.done.getD k false=false:=by
  intro m;induction m with
  |zero=>intro _;exact .inl ⟨rfl,fun i E=>by omega⟩
  |succ m M=>
   intro Y;rw[dx,dH,dK,fk];rcases M (by omega)with⟨e,h⟩|⟨k,e,G,h⟩
   ·rw[e];unfold e1;by_cases x:a.done.getD m false=false;·rw[if_pos ⟨x,.inl (by omega)⟩];exact .inr ⟨m,rfl,by omega,x⟩
    ·rw[if_neg (fun y=>x y.1)];refine .inl ⟨rfl,fun i E=> ?_⟩;by_cases y:i=m;·subst y;simpa using x
     ·exact h i (by omega)
   ·rw[e];unfold e1;split;·rename_i x;exact .inr ⟨m,rfl,by omega,x.1⟩
    ·exact .inr ⟨k,rfl,G,h⟩
 rcases O n (an _)with⟨_,h⟩|h;·rw[h j hj]at A;cases A
 ·exact h
theorem ur(l:List Bool)(k:Nat)(v:Bool)(i:Nat):(l.set k v).getD i false=if i=k∧k<l.length then v else l.getD i false:=by
 simp only[bb,vV];by_cases h:k=i;·subst h;by_cases h2:k<l.length<;>simp[h2]
 ·have:¬i=k:=fun e=>h e.symm;simp[h,this]
structure uu(n k:Nat)(tq owner:List Int)(D:List Nat)(a:eB):Prop where
 l:lf n a
 nd:D.Nodup
 lt:∀d∈D,d<n
 done:∀j:Nat,j<n→(a.done.getD j false=true↔j∈D)
 own:∀d∈D,0≤ge owner d
 Fe:iy a.src owner k D
 yb:∀j:Nat,j<n→j∉D→uq a.src owner k D j
theorem uu.yc{n k:Nat}{A owner:List Int}{D:List Nat}{a:eB}(h:uu n k A owner D a)(C:Cons n k A owner):D.length≤k:=by
 have M:D⊆(aw k).map (fun i:Nat=>(ge A i).toNat):=fun d E=>by
  have:=h.own d E;rcases C.b d (h.lt d E)with q|⟨i,G,_,q⟩;·omega
  ·exact List.mem_map.2 ⟨i,ee.2 G,by omega⟩
 simpa using h.nd.length_le_of_subset M
theorem Ff{n k:Nat}{c:List (List Int)}(aT:k<n){O owner:List Int}(C:Cons n k O owner):∀(f:Nat) (D:List Nat) (a:eB),uu n k O owner D a→n+1≤D.length+f→∃s,nU c n k O owner f a=some s∧s.u.length=n∧s.v.length=n∧Cons n (k+1) s.tq s.owner:=by
 intro f;induction f with
 |zero=>intro D a h aO;have:=h.yc C;omega
 |succ f aY=>
  intro D a h aO;have a3:=h.yc C;obtain⟨aZ,aj,aM⟩:∃j,j<n∧j∉D:=by apply Ko;intro aV;have aX:aw n⊆D:=fun j hj=>Ko fun x=>aV ⟨j,ee.1 hj,x⟩;have:=List.nodup_range.length_le_of_subset aX;simp at this;omega
  obtain⟨nx,e,G,ak⟩:=Fc a aj (by have:=mt (h.done aZ aj).1 aM;simpa using this)
  have ad:nx∉D:=fun x=>by rw[(h.done nx G).2 x]at ak;cases ak
  unfold nU;simp only[e];rw[if_neg (by omega)];obtain⟨Y,aG,E,M,ab⟩:=Fa (owner:=owner) (delta:=ge a.c7 nx) {a with u:=a.u.set (k:Int).toNat (bS (ge a.u k+ge a.c7 nx))} ⟨by simp[h.l.u],h.l.v,h.l.c7,h.l.src,h.l.done⟩ (fun j hj A=>by have aL:=(h.done j hj).1 A;have:=h.own j aL;rcases C.b j hj with q|⟨i,ac,q,_⟩<;>omega)
  rw[aG];simp only at M ab⊢;have aP:uq Y.src owner k D nx:=by rw[M];exact h.yb nx G ad
  have am:iy Y.src owner k (nx::D):=⟨aP,by rw[M];exact h.Fe⟩
  by_cases ao:ge owner nx<0
  ·rw[if_pos ao];have H:um n k nx O owner:=by refine⟨C.lt,C.lo,fun i ac=> ?_,fun j hj _=>C.b j hj⟩;obtain⟨j,hj,h1,h2⟩:=C.a i ac;exact⟨j,hj,h1,h2,fun x=>by subst x;omega⟩
   obtain⟨a8,a4,aJ,ax⟩:=E9 aT E.src D.length (n+1) D nx O owner (an _) (by omega) H G h.lt (ny.2 ⟨ad,h.nd⟩) am;rw[aJ];exact⟨_,rfl,E.u,E.v,ax⟩
  ·rw[if_neg ao];obtain⟨i,ac,q1,a5⟩:=(C.b nx G).resolve_left (by omega);rw[if_neg (by omega)];rw[q1];obtain⟨l2,aB,_,_,k2,a2⟩:=Fb (n:=n) (c:=c) (r:=i) {Y with done:=Y.done.set (nx:Int).toNat true} ⟨E.u,E.v,E.c7,E.src,by simp[E.done]⟩;refine aY (nx::D) _ ⟨l2,ny.2 ⟨ad,h.nd⟩,fun d A=> ?_,fun j hj=> ?_,fun d A=> ?_,?_,fun j hj aQ=> ?_⟩ (by simp;omega)
   ·rcases b8.1 A with rfl|A;·exact G
    ·exact h.lt d A
   ·rw[aB];simp only[dy,ur,ab];by_cases x:j=nx;·subst x;simp[h.l.done,hj]
    ·simp only[x,false_and,if_false,b8,false_or];exact h.done j hj
   ·rcases b8.1 A with rfl|A;·omega
    ·exact h.own d A
   ·refine iy.mono (fun d A=>⟨k2 d ?_,rfl⟩) am;simp only[dy,ur,ab];rcases b8.1 A with rfl|A;·simp[h.l.done,G]
    ·by_cases x:d=nx;·simp[x,h.l.done,G]
     ·simp only[x,false_and,if_false];exact(h.done d (h.lt d A)).2 A
   ·have aS:j∉D:=fun x=>aQ (cW _ x);rcases a2 j hj with q|q
    ·rcases h.yb j hj aS with p|⟨e,aN,p,a1⟩;·exact .inl (by rw[q];simp only[M];exact p)
     ·exact .inr ⟨e,cW _ aN,by rw[q];simp only[M];exact p,a1⟩
    ·exact .inr ⟨nx,eu,by rw[q,q1],by omega⟩
theorem Fg{n:Nat}{c:List (List Int)}{k:Nat}(a0:eB)(E:lf n a0):let A:=(aw n).foldl (kj c k) a0
  lf n A∧A.done=a0.done∧∀j:Nat,j<n→ge A.src j=k:=by
 have M:∀m,m≤n→lf n ((aw m).foldl (kj c k) a0)∧((aw m).foldl (kj c k) a0).done=a0.done∧∀j:Nat,j<m→ge ((aw m).foldl (kj c k) a0).src j=k:=by
  intro m;induction m with
  |zero=>intro _;exact⟨E,rfl,fun j hj=>by omega⟩
  |succ m G=>
   intro O;obtain⟨l,e,h⟩:=G (by omega);rw[dx,dH,dK,fk];refine⟨⟨l.u,l.v,by simp[kj,l.c7],by simp[kj,l.src],l.done⟩,e,fun j hj=> ?_⟩;simp only[kj];by_cases x:j=m;·subst x;exact fh _ _ _ (by rw[l.src];omega)
   ·rw[en _ _ _ _ x];exact h j (by omega)
 exact M n (an _)
theorem Fh{n k:Nat}{c:List (List Int)}(E:k<n)(s:fD)(G:s.u.length=n)(M:s.v.length=n)(C:Cons n k s.tq s.owner):∃s',lV c n k s=some s'∧s'.u.length=n∧s'.v.length=n∧Cons n (k+1) s'.tq s'.owner:=by unfold lV;obtain⟨l,e,h⟩:=Fg (c:=c) (k:=k) ⟨s.u,s.v,cM n,cM n,aA n false⟩ ⟨G,M,by simp[cM],by simp[cM],by simp⟩;refine Ff E C (n+1) [] _ ⟨l,List.nodup_nil,fun d A=>(by cases A),fun j hj=> ?_,fun d A=>(by cases A),trivial,fun j hj _=> .inl (h j hj)⟩ (by simp);rw[e];simp[bb,hj]
def jT(l:List Bool):Nat:=(l.filter fun b=> !b).length
theorem rA:∀(l:List Bool) (j:Nat),j<l.length→l.getD j false=false→jT (l.set j true)+1=jT l
 |[],j,h,_=>by simp at h
 |b::l,0,_,h=>by simp at h;subst h;simp[jT]
 |b::l,j+1,h,h2=>by have:=rA l j (by simpa using h) (by simpa using h2);cases b<;>simp[jT]at this⊢<;>omega
def lX(l l':List Bool):Prop:=l'.length=l.length∧jT l'≤jT l∧∀j,l.getD j false=true→l'.getD j false=true
theorem lX.set{l:List Bool}{j:Nat}(hj:j<l.length)(h:l.getD j false=false):lX l (l.set j true):=by
 refine⟨by simp,by have:=rA l j hj h;omega,fun i A=> ?_⟩;rw[ur];split;·rfl
 ·exact A
theorem lX.trans{a b c:List Bool}(h:lX a b)(k:lX b c):lX a c:=⟨k.1.trans h.1,Nat.le_trans k.2.1 h.2.1,fun j hj=>k.2.2 j (h.2.2 j hj)⟩
structure p9(n fixed r x:Nat)(used:List Bool)(tq tq' owner':List Int):Prop where
 lt:tq'.length=n
 lo:owner'.length=n
 a:∀i:Nat,i<n→i≠fixed→∃j:Nat,j<n∧ge tq' i=j∧ge owner' j=i∧j≠x
 b:∀j:Nat,j<n→j≠x→ge owner' j= -1∨∃i:Nat,i<n∧i≠fixed∧ge owner' j=i∧ge tq' i=j
 k:∀i:Nat,i<n→i≠r→used.getD (ge tq i).toNat false=true→ge tq' i=ge tq i
def rB(n fixed r x:Nat)(m:gE):Option (Bool×gE)→Prop
 |none=>False
 |some (false,m')=>m'.tq=m.tq∧m'.owner=m.owner∧lX m.used m'.used
 |some (true,m')=>p9 n fixed r x m.used m.tq m'.tq m'.owner
structure oZ(n fixed F r x:Nat)(m:gE):Prop where
 c:Cons n n m.tq m.owner
 f:ge m.tq fixed=F
 hf:F<n
 fo:ge m.owner F=fixed
 hr:fixed<r
 rn:r<n
 hx:ge m.tq r=x
 xn:x<n
 xo:ge m.owner x=r
 ux:m.used.getD x false=true
 ul:m.used.length=n
theorem Fi{n Y F:Nat}{tight:Int→Int→Bool}{ax:Int→gE→Option (Bool×gE)}{u:Nat}(a9:∀(r x:Nat) (m:gE),oZ n Y F r x m→jT m.used<u→rB n Y r x m (ax r m)){r x:Nat}:∀(ac:List Nat) (m:gE),(∀j∈ac,j<n)→oZ n Y F r x m→jT m.used≤u→rB n Y r x m (iR tight n Y F ax r ac m):=by
 intro ac;induction ac with
 |nil=>intro m _ _ _;exact⟨rfl,rfl,rfl,an _,fun _ h=>h⟩
 |cons j ac aL=>
  intro m aO A aS;have hj:=aO j eu;have aJ:∀j∈ac,j<n:=fun i O=>aO i (cW _ O);have bp:=A.hr;have aG:=A.rn;have ba:=A.c.lt;have a5:=A.c.lo;unfold iR;split;·exact aL m aJ A aS
  ·rename_i a4
   have ao:m.used.getD j false=false:=by
    cases q:m.used.getD j false with
    |false=>rfl
    |true=>exact absurd (.inl q) a4
   have aP:j≠x:=fun e=>by rw[e,A.ux]at ao;cases ao
   split
   ·rename_i e;obtain rfl:j=F:=by omega
    refine⟨by simp[ba],by simp[a5],fun i O aB=> ?_,fun c ab a1=> ?_,fun i O ad _=> ?_⟩
    ·by_cases E:i=r;·subst E;exact⟨j,hj,by simpa using fh m.tq i j (by omega),fh _ _ _ (by omega),aP⟩
     ·obtain⟨c,ab,h1,h2⟩:=A.c.a i O;have aZ:c≠j:=fun G=>by subst G;have:=A.fo;omega
      refine⟨c,ab,?_,?_,fun G=> ?_⟩;·simp only[dy];rw[en _ _ _ _ E];exact h1
      ·rw[en _ _ _ _ aZ];exact h2
      ·subst G;have:=A.xo;omega
    ·by_cases E:c=j;·subst E;exact .inr ⟨r,aG,by omega,fh _ _ _ (by omega),by simpa using fh m.tq r c (by omega)⟩
     ·simp only[dy];rw[en _ _ _ _ E];rcases A.c.b c ab with h1|⟨i,O,h1,h2⟩;·exact .inl h1
      ·have ad:i≠r:=fun G=>by subst G;have:=A.hx;omega
       refine .inr ⟨i,O,fun G=> ?_,h1,by rw[en _ _ _ _ ad];exact h2⟩;subst G;have:=A.f;omega
    ·simp only[dy];rw[en _ _ _ _ ad]
   ·rename_i a3;have bq:j≠F:=fun e=>a3 (by rw[e]);split
    ·rename_i bv;obtain⟨ak,a2,q1,aT⟩:=(A.c.b j hj).resolve_left (by omega);rw[if_neg (by omega),q1];have a8:ak≠r:=fun e=>by subst e;have:=A.hx;omega
     have aV:oZ n Y F ak j {m with used:=m.used.set j true}:=
      ⟨A.c,A.f,A.hf,A.fo,by omega,a2,aT,hj,q1,by simp[A.ul,hj],by simp[A.ul]⟩
     have bz:=rA m.used j (by rw[A.ul];exact hj) ao;have R:=a9 ak j {m with used:=m.used.set j true} aV (by simp only;omega);have aN:=lX.set (l:=m.used) (by rw[A.ul];exact hj) ao;generalize ax ak {m with used:=m.used.set j true}=bd at R
     match bd,R with
     |some (true,M),R=>
      have R:p9 n Y ak j (m.used.set j true) m.tq M.tq M.owner:=R;have aQ:∀i:Nat,i<n→i≠ak→m.used.getD (ge m.tq i).toNat false=true→ge M.tq i=ge m.tq i:=fun i O h1 h2=>R.k i O h1 (aN.2.2 _ h2);have bB:ge M.tq r=x:=by rw[aQ r aG (fun e=>a8 e.symm) (by rw[A.hx];exact A.ux)];exact A.hx
      have bA:ge M.owner x=r:=by
       obtain⟨c,ab,h1,h2,_⟩:=R.a r aG (by omega);have:c=x:=by omega
       subst this;exact h2
      show p9 n Y r x m.used m.tq (M.tq.set (r:Int).toNat j) (M.owner.set j r);simp only[dy];refine⟨by simp[R.lt],by simp[R.lo],fun i O aB=> ?_,fun c ab a1=> ?_,fun i O ad aj=> ?_⟩
      ·by_cases E:i=r;·subst E;exact⟨j,hj,fh _ _ _ (by rw[R.lt];omega),fh _ _ _ (by rw[R.lo];omega),aP⟩
       ·obtain⟨c,ab,h1,h2,aY⟩:=R.a i O aB;refine⟨c,ab,by rw[en _ _ _ _ E];exact h1,by rw[en _ _ _ _ aY];exact h2,fun G=> ?_⟩;subst G;omega
      ·by_cases E:c=j;·subst E;exact .inr ⟨r,aG,by omega,fh _ _ _ (by rw[R.lo];omega),fh _ _ _ (by rw[R.lt];omega)⟩
       ·rw[en _ _ _ _ E];rcases R.b c ab E with h1|⟨i,O,aB,h1,h2⟩;·exact .inl h1
        ·exact .inr ⟨i,O,aB,h1,by rw[en _ _ _ _ (fun G=>by subst G;omega)];exact h2⟩
      ·rw[en _ _ _ _ ad];refine aQ i O (fun G=> ?_) aj;subst G;rw[aT]at aj;simp only[dy]at aj;rw[ao]at aj;cases aj
     |some (false,M),R=>
      obtain⟨E,G,bm⟩:=(R:M.tq=m.tq∧M.owner=m.owner∧lX (m.used.set j true) M.used)
      have am:=aN.trans bm;have aX:oZ n Y F r x M:=⟨by rw[E,G];exact A.c,by rw[E];exact A.f,A.hf,by rw[G];exact A.fo,A.hr,A.rn,by rw[E];exact A.hx,A.xn,by rw[G];exact A.xo,am.2.2 _ A.ux,am.1.trans A.ul⟩
      have:=aL M aJ aX (by have:=am.2.1;omega);show rB n Y r x m (iR tight n Y F ax r ac M);generalize iR tight n Y F ax r ac M=bg at this
      match bg,this with
      |some (false,aM),h=>exact⟨h.1.trans E,h.2.1.trans G,am.trans h.2.2⟩
      |some (true,aM),h=>have h:p9 n Y r x M.used M.tq aM.tq aM.owner:=h;rw[E]at h;exact⟨h.lt,h.lo,h.a,h.b,fun i O ad aj=>h.k i O ad (am.2.2 _ aj)⟩
    ·exact aL m aJ A aS
theorem Fj{n E F:Nat}{tight:Int→Int→Bool}:∀(f r x:Nat) (m:gE),oZ n E F r x m→jT m.used<f→rB n E r x m (jS tight n E F f r m):=by
 intro f;induction f with
 |zero=>intro r x m _ h;omega
 |succ f G=>intro r x m A h;unfold jS;exact Fi (u:=f) (fun r x m A h=>G r x m A h) (aw n) m (fun j hj=>ee.1 hj) A (by omega)
theorem Fk{n A:Nat}{tight:Int→Int→Bool}(am:A<n):∀(G:List Nat) (E owner:List Int),(∀j∈G,(j:Int)<ge E A)→Cons n n E owner→∃p,kl tight n A G E owner=some p∧Cons n n p.1 p.2:=by
 intro G;induction G with
 |nil=>intro E owner _ C;exact⟨_,rfl,C⟩
 |cons j G ao=>
  intro E owner aj C;have hj:=aj j eu;have ak:∀j∈G,(j:Int)<ge E A:=fun i O=>aj i (cW _ O);obtain⟨F,hF,ad,aB⟩:=C.a A am;have M:j<n:=by omega
  unfold kl;split;·exact ao E owner ak C
  ·rename_i aL;have aQ:¬ge owner j<A:=fun e=>aL (.inl e);obtain⟨r,aM,q1,aO⟩:=(C.b j M).resolve_left (by omega);rw[if_neg (by omega),q1,ad];have aS:r≠A:=fun e=>by subst e;omega
   have ax:oZ n A F r j ⟨(aA n false).set j true,E,owner⟩:=⟨C,ad,hF,aB,by omega,aM,aO,M,q1,by simp[M],by simp⟩
   have aN:jT ((aA n false).set j true)<n+1:=by
    have:=rA (aA n false) j (by simpa using M) (by simp[bb,M]);have h2:jT (aA n false)=n:=by simp[jT]
    omega
   have R:=Fj (tight:=tight) (n+1) r j _ ax aN;generalize jS tight n A F (n+1) r ⟨(aA n false).set j true,E,owner⟩=aP at R
   match aP,R with
   |some (false,m),R=>obtain⟨ab,ac,_⟩:=R;simp only at ab ac;show∃p,kl tight n A G m.tq m.owner=some p∧_;rw[ab,ac];exact ao E owner ak C
   |some (true,m),R=>
    have R:p9 n A r j ((aA n false).set j true) E m.tq m.owner:=R;refine⟨_,rfl,?_⟩;simp only[dy];refine⟨by simp[R.lt],by simp[R.lo],fun i O=> ?_,fun c Y=> ?_⟩
    ·by_cases e:i=A;·subst e;exact⟨j,M,fh _ _ _ (by rw[R.lt];omega),fh _ _ _ (by rw[R.lo];omega)⟩
     ·obtain⟨c,Y,h1,h2,aG⟩:=R.a i O e;exact⟨c,Y,by rw[en _ _ _ _ e];exact h1,by rw[en _ _ _ _ aG];exact h2⟩
    ·by_cases e:c=j;·subst e;exact .inr ⟨A,am,fh _ _ _ (by rw[R.lo];omega),fh _ _ _ (by rw[R.lt];omega)⟩
     ·rw[en _ _ _ _ e];rcases R.b c Y e with h1|⟨i,O,aJ,h1,h2⟩;·exact .inl h1
      ·exact .inr ⟨i,O,h1,by rw[en _ _ _ _ aJ];exact h2⟩
theorem Fl{n A:Nat}{c:List (List Int)}(E:A<n)(s:fD)(C:Cons n n s.tq s.owner):∃s',mQ c n A s=some s'∧Cons n n s'.tq s'.owner:=by obtain⟨F,hF,M,O⟩:=C.a A E;unfold mQ;rw[if_pos ⟨by omega,by omega⟩];obtain⟨p,e,G⟩:=Fk (tight:=gD c s.u s.v) E (aw (ge s.tq A).toNat) s.tq s.owner (fun j hj=>by have:=ee.1 hj;omega) C;rw[e];exact⟨_,rfl,G⟩
theorem wq(c:List (List Int)):∃s,nV c=some s∧Cons c.length c.length s.tq s.owner:=by
 have h1:∀k,k≤c.length→∃s,(aw k).foldl (fun s (i:Nat)=>s.bind (lV c c.length i)) (some ⟨cM c.length,cM c.length,aA c.length (-1),aA c.length (-1)⟩)=some s∧s.u.length=c.length∧s.v.length=c.length∧Cons c.length k s.tq s.owner:=by
  intro k;induction k with
  |zero=>intro _;refine⟨_,rfl,by simp[cM],by simp[cM],by simp,by simp,fun i ak=>by omega,fun j hj=> .inl ?_⟩;simp[ge,bb,hj]
  |succ k A=>intro Y;obtain⟨s,e,ab,ac,C⟩:=A (by omega);rw[dx,dH,e];exact Fh (by omega) s ab ac C
 obtain⟨ad,M,_,_,E⟩:=h1 c.length (an _)
 have h2:∀k,k≤c.length→∃s,(aw k).foldl (fun s (i:Nat)=>s.bind (mQ c c.length i)) (some ad)=some s∧Cons c.length c.length s.tq s.owner:=by
  intro k;induction k with
  |zero=>intro _;exact⟨_,rfl,E⟩
  |succ k A=>intro Y;obtain⟨s,e,C⟩:=A (by omega);rw[dx,dH,e];exact Fl (by omega) s C
 obtain⟨aj,O,G⟩:=h2 c.length (an _);exact⟨aj,by unfold nV;simp only;rw[M,O],G⟩
def kV(s:ByteArray):Nat→Nat→Int×Int
 |0,_=>(0,2)
 |f+1,i=>if mG (bt s i)=false then(i,1)else if bt s i=34 then(i+1,0)else if bt s i=92∨bt s i<32 then(0,2)else kV s f (i+1)
def lQ(s:ByteArray):Int×Int:=kV s (s.size-1) 1
theorem DR(w:World)(s:ByteArray)(ao:s.size≤140737488355328)(h1:1≤s.size):Calls ai 129 #[ah s] w fun e w'=>e= .returned (.tuple #[af ae (lQ s).1,af ae (lQ s).2])∧w=w':=by
 go_enter Tryz.func129,Tryz.ntmps129;go_wp2_with fail;go_loop[2,3,4,5,6,7,8,9,10,11,12,13,14,15,16,17,18,19,20,21,22,23,24,25,26,27,28] (fun _ _ i _ _ _ _ _ _ _ _ _ _ _ _ _ _ _ _ _ _ _ _ _ _ _ _=>∃n:Nat,n≤s.size∧i=af ae n∧Hid (kV s (s.size-n) n=lQ s)) (fun _ _ i _ _ _ _ _ _ _ _ _ _ _ _ _ _ _ _ _ _ _ _ _ _ _ _=>s.size-(intOf i).toNat);case atStart=>exact⟨1,h1,rfl,rfl⟩
 case round=>
  obtain⟨n,am,rfl,M⟩:=hrel;by_cases Y:n<s.size
  ·have ax:(0:Int)≤(n:Int):=by omega
   have aB:(n:Int)<(s.size:Int):=by omega
   have aj:((s[n]'Y).toNat:Int)=bt s n:=ei Y;have E:Hid ((if mG (bt s n)=false then((n:Int),(1:Int))else if bt s n=34 then((n:Int)+1,0)else if bt s n=92∨bt s n<32 then(0,2)else kV s (s.size-(n+1)) (n+1))=lQ s):=by unfold Hid;rw[←M.out,show s.size-n=(s.size-(n+1))+1 by omega,kV]
   generalize bt s n=c at*;generalize h2:mG c=b2 at*;have ab:=aa h2;clear h2 M;go_wp2_with fail;refine(w5 _ c).mono ?_;rintro e w1 ⟨rfl,rfl⟩;rw[ab.out];cases b2;·go_wp2_with fail;go_ret2;exact⟨by rw[←E.out];rfl,rfl⟩
   ·by_cases A:c=34
    ·have ac:(c==34)=true:=by simpa using A
     go_wp2_with fail;go_ret2;exact⟨by rw[←E.out,if_neg (by simp),if_pos A];rfl,rfl⟩
    ·have ac:(c==34)=false:=by simpa using A
     by_cases G:c=92
     ·have ad:(c==92)=true:=by simpa using G
      go_wp2_with fail;go_ret2;exact⟨by rw[←E.out,if_neg (by simp),if_neg A,if_pos (.inl G)];rfl,rfl⟩
     ·have ad:(c==92)=false:=by simpa using G
      by_cases O:c<32;·go_wp2_with fail;go_ret2;exact⟨by rw[←E.out,if_neg (by simp),if_neg A,if_pos (.inr O)];rfl,rfl⟩
      ·have ak:decide (c<32)=false:=by simpa using O
       go_wp2_with fail;go_round;case rel=>exact⟨n+1,by omega,by go_num,by unfold Hid;rw[←E.out,if_neg (by simp),if_neg A,if_neg (by omega)]⟩
       case measure=>simp[intOf];omega
  ·go_wp2_with fail;go_ret2;exact⟨by rw[←M.out,show s.size-n=0 by omega];rfl,rfl⟩
def xu:List (List UInt8):=[[109,111,100,117,108,101],[100,101,102],[116,121,112,101],[108,101,116],[105,110],[105,102],[116,104,101,110],[101,108,115,101],[116,114,117,101],[102,97,108,115,101],[73,110,116],[84,101,120,116],[66,111,111,108]]
def kW(s:ByteArray):Bool:=decide (s.data.toList∈xu)
theorem xv(w:World)(s:ByteArray):Calls ai 178 #[ah s] w fun e w'=>e= .returned (.bool (kW s))∧w=w':=by
 go_enter Tryz.func178,Tryz.ntmps178;go_wp2_with fail;all_goals go_ret
 all_goals exact⟨by simp_all[kW,xu,eT],rfl⟩
theorem extract_size(s:ByteArray)(a b:Nat):(s.extract a b).size=min b s.size-a:=by simp[ByteArray.size_extract]
def tD(ub rb b1 b2 b3 n24 lb m24 rr ll:Bool)(n e:Int):Int×Int×Int:=
 match ub,rb,b1,b2,b3 with
 |true,false,true,true,true=>(match n24,m24 with|false,false=>(match rr,ll with|true,_=>(0,0,2)|false,true=>(3,e,0)|false,false=>(4,e,0))|_,_=>(0,0,3))
 |_,_,_,_,_=>(match n24,rb,lb with|true,_,_=>(0,0,3)|false,true,_=>(7,n,0)|false,false,true=>(1,n,0)|false,false,false=>(2,n,0))
def iM(s:ByteArray):Int×Int×Int:=
 let n:=di cn s 0;let m:=di cn (s.extract (n+1) s.size) 0
 tD (fc (bt s 0)) (kW (s.extract 0 n)) (decide (n+1<s.size)) (bt s n==46) (eI (bt s (n+1))) (decide (24<n)) (fU (bt s 0)) (decide (24<m)) (kW (s.extract (n+1) (n+1+m))) (fU (bt s (n+1))) n ((n+1+m:Nat):Int)
theorem pP(f:Int→Bool)(s:ByteArray)(i:Nat):di f s i≤s.size-i:=by
 unfold di
 have h1:∀l:List UInt8,(l.takeWhile fun c=>f (c.toNat:Int)).length≤l.length:=fun l=>by
  induction l with
  |nil=>simp
  |cons a l A=>rw[List.takeWhile_cons];split<;>simp;exact A
 have:=h1 (s.data.toList.drop i);rw[List.length_drop]at this;exact this
theorem DS(w:World)(s:ByteArray)(a5:s.size≤140737488355328)(h1:1≤s.size):Calls ai 126 #[ah s] w fun e w'=>e= .returned (.tuple #[af ae (iM s).1,af ae (iM s).2.1,af ae (iM s).2.2])∧w=w':=by
 have bC:=pP cn s 0;generalize ad:iM s=r;unfold iM at ad;dsimp only at ad;generalize aB:di cn s 0=n at*;have a4:=pP cn (s.extract (n+1) s.size) 0;rw[extract_size]at a4;generalize ax:di cn (s.extract (n+1) s.size) 0=m at*;generalize aG:kW (s.extract 0 n)=rb at*;generalize ao:fU (bt s 0)=aj at*;generalize aJ:fc (bt s 0)=bd at*;generalize aL:decide (n+1<s.size)=b1 at*;generalize aM:(bt s n==46)=b2 at*;generalize aN:eI (bt s (n+1))=b3 at*;generalize aS:decide (24<n)=G at*;generalize aP:decide (24<m)=a9 at*;generalize aQ:kW (s.extract (n+1) (n+1+m))=ba at*;generalize aO:fU (bt s (n+1))=a8 at*;have E:=aa ad.symm;have aZ:=aa aB;have aY:=aa ax;have a1:=aa aG;have ac:=aa ao;have a3:=aa aJ;have M:=aa aL;have am:=aa aM;have aV:=aa aN;have A:=aa aS;have ak:=aa aP;have a2:=aa aQ;have aX:=aa aO;clear ad aB ax aG ao aJ aL aM aN aS aP aQ aO;have bg:((s[0]'(by omega)).toNat:Int)=bt s 0:=ei (by omega);go_enter Tryz.func126,Tryz.ntmps126;go_wp2_with fail;refine(xt _ s a5).mono ?_;rintro e w1 ⟨rfl,rfl⟩;rw[aZ.out];go_wp2_with fail;refine(xv _ _).mono ?_;rintro e w1 ⟨rfl,rfl⟩;rw[a1.out];go_wp2_with fail;refine(w4 _ _).mono ?_;rintro e w1 ⟨rfl,rfl⟩;rw[a3.out];cases bd
 ·cases G
  ·have O:=A.out;have ab:¬24<n:=by simpa using A.out
   cases rb
   ·go_wp2_with fail;refine(oQ _ _).mono ?_;rintro e w1 ⟨rfl,rfl⟩;rw[ac.out];cases aj
    iterate 2
     ·go_wp2_with fail;go_ret3;exact⟨by rw[E.out];try rfl,rfl⟩
   ·go_wp2_with fail;go_ret3;exact⟨by rw[E.out];try rfl,rfl⟩
  ·have Y:24<n:=by simpa using A.out
   go_wp2_with fail;go_ret3;exact⟨by rw[E.out];try rfl,rfl⟩
 ·cases rb
  ·cases b1
   ·have bq:=M.out;have bv:¬n+1<s.size:=by simpa using M.out
    have bz:¬(n:Int)+1<(s.size:Int):=by omega
    cases G
    ·have O:=A.out;have ab:¬24<n:=by simpa using A.out
     go_wp2_with fail;refine(oQ _ _).mono ?_;rintro e w1 ⟨rfl,rfl⟩;rw[ac.out];cases aj
     iterate 2
      ·go_wp2_with fail;go_ret3;exact⟨by rw[E.out];try rfl,rfl⟩
    ·have Y:24<n:=by simpa using A.out
     go_wp2_with fail;go_ret3;exact⟨by rw[E.out];try rfl,rfl⟩
   ·have hy:n<s.size:=by have:=(of_decide_eq_true M.out:n+1<s.size);omega
    have bm:((s[n]'hy).toNat:Int)=bt s n:=ei hy;have bI:(n:Int)<(s.size:Int):=by omega
    have bL:(n:Int)+1<(s.size:Int):=by have:=(of_decide_eq_true M.out:n+1<s.size);omega
    cases b2
    ·have bA:=am.out;cases G
     ·have O:=A.out;have ab:¬24<n:=by simpa using A.out
      go_wp2_with fail;refine(oQ _ _).mono ?_;rintro e w1 ⟨rfl,rfl⟩;rw[ac.out];cases aj
      iterate 2
       ·go_wp2_with fail;go_ret3;exact⟨by rw[E.out];try rfl,rfl⟩
     ·have Y:24<n:=by simpa using A.out
      go_wp2_with fail;go_ret3;exact⟨by rw[E.out];try rfl,rfl⟩
    ·have bB:=am.out;have aT:=(of_decide_eq_true M.out:n+1<s.size)
     have bp:((s[n+1]'aT).toNat:Int)=bt s (n+1):=ei aT;have bJ:(n:Int)+1<(s.size:Int):=by omega
     go_wp2_with fail;refine(tj _ _).mono ?_;rintro e w1 ⟨rfl,rfl⟩;rw[aV.out];cases b3
     ·cases G
      ·have O:=A.out;have ab:¬24<n:=by simpa using A.out
       go_wp2_with fail;refine(oQ _ _).mono ?_;rintro e w1 ⟨rfl,rfl⟩;rw[ac.out];cases aj
       iterate 2
        ·go_wp2_with fail;go_ret3;exact⟨by rw[E.out];try rfl,rfl⟩
      ·have Y:24<n:=by simpa using A.out
       go_wp2_with fail;go_ret3;exact⟨by rw[E.out];try rfl,rfl⟩
     ·go_wp2_with fail;refine(xt _ _ (by rw[extract_size];omega)).mono ?_;rintro e w1 ⟨rfl,rfl⟩;rw[aY.out];cases G
      ·have O:=A.out;have ab:¬24<n:=by simpa using A.out
       cases a9
       ·have bE:=ak.out;have bH:¬24<m:=by simpa using ak.out
        go_wp2_with fail;refine(xv _ _).mono ?_;rintro e w1 ⟨rfl,rfl⟩;rw[a2.out];cases ba
        ·go_wp2_with fail;refine(oQ _ _).mono ?_;rintro e w1 ⟨rfl,rfl⟩;rw[aX.out];cases a8
         iterate 2
          ·go_wp2_with fail;go_ret3;exact⟨by rw[E.out];try rfl,rfl⟩
        ·go_wp2_with fail;go_ret3;exact⟨by rw[E.out];try rfl,rfl⟩
       ·have bG:24<m:=by simpa using ak.out
        go_wp2_with fail;go_ret3;exact⟨by rw[E.out];try rfl,rfl⟩
      ·have Y:24<n:=by simpa using A.out
       go_wp2_with fail;go_ret3;exact⟨by rw[E.out];try rfl,rfl⟩
  ·cases G
   ·have O:=A.out;have ab:¬24<n:=by simpa using A.out
    go_wp2_with fail;go_ret3;exact⟨by rw[E.out];try rfl,rfl⟩
   ·have Y:24<n:=by simpa using A.out
    go_wp2_with fail;go_ret3;exact⟨by rw[E.out];try rfl,rfl⟩
inductive Db(k:Int):Prop where
 |k1 (h:k=1)
 |k2 (h:k=2)
 |k3 (h:k=3)
 |k4 (h:k=4)
 |k5 (h:k=5)
 |k6 (h:k=6)
 |k7 (h:k=7)
 |k8 (h:k=8)
 |k9 (h:k=9)
 |Dc (h:k=10)
 |Dd (h:k=11)
 |De (h:k=12)
 |Df (h:k=13)
 |Dg (h:k=14)
 |Dh (h:k=15)
 |lM (h:k=16)
 |nI (h:k=17)
 |Di (h:k=18)
 |Dj (h:k=19)
 |Dk (h:k=20)
 |oR (h:k=21)
 |Dl (h:k=22)
 |out (h:k<1∨22<k)
theorem Dm(k:Int):Db k:=by
 by_cases h:k<1∨22<k;·exact .out h
 ·by_cases A:k=1;·exact .k1 A
  by_cases am:k=2;·exact .k2 am
  by_cases aG:k=3;·exact .k3 aG
  by_cases aJ:k=4;·exact .k4 aJ
  by_cases aL:k=5;·exact .k5 aL
  by_cases aM:k=6;·exact .k6 aM
  by_cases aN:k=7;·exact .k7 aN
  by_cases aO:k=8;·exact .k8 aO
  by_cases aP:k=9;·exact .k9 aP
  by_cases E:k=10;·exact .Dc E
  by_cases G:k=11;·exact .Dd G
  by_cases M:k=12;·exact .De M
  by_cases O:k=13;·exact .Df O
  by_cases Y:k=14;·exact .Dg Y
  by_cases ab:k=15;·exact .Dh ab
  by_cases ac:k=16;·exact .lM ac
  by_cases ad:k=17;·exact .nI ad
  by_cases aj:k=18;·exact .Di aj
  by_cases ak:k=19;·exact .Dj ak
  by_cases ao:k=20;·exact .Dk ao
  by_cases ax:k=21;·exact .oR ax
  by_cases aB:k=22;·exact .Dl aB
  exact absurd (show k<1∨22<k by omega) h
def b9(k:Int)(n:Nat):Int:=
 if k=1 then 3
 else if k=2 then(if n<2 then-1 else if n=2 then 6 else n+3)
 else if k=16 then(if n=0 then 3 else n+2)
 else if k=18 then(if n=0 then-1 else n+1)
 else if k=3 then(if n=1 then 3 else-1)
 else if k=4∨k=8∨k=22 then(if n=1 then 2 else-1)
 else if k=17 then(if n=1 then 0 else-1)
 else if k=19 then(if n=3 then 3 else-1)
 else if k=20 then(if n=2 then 4 else-1)
 else if k=21 then(if n=2 then 1 else-1)
 else if k=5∨k=6∨k=7∨9≤k∧k≤15 then(if n=0 then 1 else-1)
 else-1
theorem w6{a b:Int}(h:a=b):BF (af ae a)= .returned (af ae b):=by rw[h]
theorem pK{a b:Bool}(h:a=b):BF (.bool a)= .returned (.bool b):=by rw[h]
theorem Dn(n:Nat)(A leads:Int)(w:World):Calls ai 157 #[af ae n,af ae A,af ae leads] w fun e w'=>(∃z,e= .returned (af ae z)∧z=if(n:Int)=A then leads else-1)∧w'=w:=by
 by_cases h:(n:Int)=A
 all_goals
  go_enter Tryz.func157,Tryz.ntmps157;go_wp2_with fail;go_ret;simp
theorem tm(k:Int)(n:Nat)(O:n≤140737488355328)(w:World):Calls ai 109 #[af ae k,af ae n] w fun e w'=>e= .returned (af ae (b9 k n))∧w'=w:=by
 have q1:=bA (n:=(n:Int)-3) (by omega);have A:=bA (n:=(n:Int)-1) (by omega);have E:=bA (n:=6+max 0 ((n:Int)-3)) (by omega);have G:=bA (n:=3+max 0 ((n:Int)-1)) (by omega);have M:=bA (n:=1+(n:Int)) (by omega);go_enter Tryz.func109,Tryz.ntmps109;go_wp2_with(go_at_call 157;refine(Dn _ _ _ _).mono ?_;rintro e w1 ⟨⟨z,rfl,hz⟩,rfl⟩)
 all_goals
  go_ret;refine⟨w6 ?_,rfl⟩;clear q1 A E G M;simp only[beq_iff_eq,beq_eq_false_iff_ne,ne_eq]at*;unfold b9;omega
end Go.Proofs.YtdplggpbgommnaaGreatDoor
