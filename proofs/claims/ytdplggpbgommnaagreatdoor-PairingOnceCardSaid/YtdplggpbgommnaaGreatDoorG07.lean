/- assign.Solve ends at whatever square of numbers, and each row gets a column of its own. -/
import Derived.Test.YtdplggpbgommnaaGreatDoorG06
open Classical renaming byContradiction->Ko
open Go.ByteArray renaming toList_eq->eT
open Go.Ending renaming returned->BF
open Go.IntKind renaming i64->ae
open Go.Lib renaming hid->aa
open Go.Proofs.Tryz renaming prog->ai
open Go.Value renaming int->af,string->ah
open Int renaming toNat_natCast->dy
open List renaming foldl_append->dH,foldl_cons->dK,foldl_nil->fk,getD_eq_getElem?_getD->bb,getElem?_set->vV,mem_append_right->vK,mem_cons_of_mem->cW,mem_cons_self->eu,mem_cons->b8,mem_range->ee,nodup_cons->ny,range_succ->dx,range->aw,replicate->aA
open Nat renaming le_refl->kI
set_option maxRecDepth 100000
set_option maxHeartbeats 4000000
namespace Go.Proofs.YtdplggpbgommnaaGreatDoor
open Go.RowKit
theorem x9(l:List Int)(k:Nat)(v:Int)(i:Nat):ge (l.set k v) i=if i=k/\k<l.length then v else ge l i:=by
 simp only[ge,dy,bb,vV];by_cases h:k=i
 ·subst h;by_cases h2:k<l.length;·simp[h2]
  ·simp[h2]
 ·have:¬i=k:=fun e=>h e.symm;simp[h,this]
theorem fh(l:List Int)(k:Nat)(v:Int)(h:k<l.length):ge (l.set k v) k=v:=by rw[x9,if_pos ⟨rfl,h⟩]
theorem en(l:List Int)(k:Nat)(v:Int)(i:Nat)(h:i≠k):ge (l.set k v) i=ge l i:=by rw[x9,if_neg (fun e=>h e.1)]
structure Cons(n k:Nat)(tq owner:List Int):Prop where
 lt:tq.length=n
 lo:owner.length=n
 a:∀i:Nat,i<k->∃j:Nat,j<n/\ge tq i=j/\ge owner j=i
 b:∀j:Nat,j<n->ge owner j= -1\/∃i:Nat,i<k/\ge owner j=i/\ge tq i=j
structure um(n k col:Nat)(tq owner:List Int):Prop where
 lt:tq.length=n
 lo:owner.length=n
 a:∀i:Nat,i<k->∃j:Nat,j<n/\ge tq i=j/\ge owner j=i/\j≠col
 b:∀j:Nat,j<n->j≠col->ge owner j= -1\/∃i:Nat,i<k/\ge owner j=i/\ge tq i=j
def uq(src owner:List Int)(k:Nat)(D:List Nat)(d:Nat):Prop:=ge src d=k\/∃e∈D,ge src d=ge owner e/\0<=ge owner e
def iy(src owner:List Int)(k:Nat):List Nat->Prop
 |[]=>True
 |d::ds=>uq src owner k ds d/\iy src owner k ds
theorem iy.mono{src owner J G:List Int}{k:Nat}:∀{D:List Nat},(∀d∈D,ge J d=ge src d/\ge G d=ge owner d)->iy src owner k D->iy J G k D
 |[],_,_=>trivial
 |d::ds,h,p=>by
  refine⟨?_,iy.mono (fun e he=>h e (cW _ he)) p.2⟩;rcases p.1 with q|⟨e,he,q⟩;·exact .inl (by rw[(h d eu).1];exact q)
  ·exact .inr ⟨e,he,by rw[(h d eu).1,(h e (cW _ he)).2];exact q⟩
theorem iy.tail{src owner:List Int}{k:Nat}:∀{J:List Nat} {G:List Nat},iy src owner k (J++G)->iy src owner k G
 |[],_,p=>p
 |_::_,_,p=>iy.tail p.2
theorem ya{n k:Nat}(am:k<n){src:List Int}(ak:src.length=n)(f:Nat)(G:Nat)(O owner:List Int)(hf:0<f)(H:um n k G O owner)(hc:G<n)(q:ge src G=k):∃Y J,k0 k src f G O owner=some (Y,J)/\Cons n (k+1) Y J:=by
 obtain⟨f,rfl⟩:∃g,f=g+1:=⟨f-1,by omega⟩
 refine⟨_,_,by unfold k0;rw[if_pos ⟨by omega,by rw[ak];omega,by omega,by rw[q,H.lt];omega⟩];simp only[q,if_true];rfl,?_⟩;simp only[dy];refine⟨by simp[H.lt],by simp[H.lo],fun i aj=> ?_,fun j hj=> ?_⟩
 ·by_cases x:i=k;·subst x;exact⟨G,hc,fh _ _ _ (by rw[H.lt];omega),fh _ _ _ (by rw[H.lo];exact hc)⟩
  ·obtain⟨j,hj,h1,h2,ab⟩:=H.a i (by omega);exact⟨j,hj,by rw[en _ _ _ _ x];exact h1,by rw[en _ _ _ _ ab];exact h2⟩
 ·by_cases x:j=G;·subst x;exact .inr ⟨k,by omega,fh _ _ _ (by rw[H.lo];exact hc),fh _ _ _ (by rw[H.lt];omega)⟩
  ·rw[en _ _ _ _ x];rcases H.b j hj x with h1|⟨i,aj,h1,h2⟩;·exact .inl h1
   ·exact .inr ⟨i,by omega,h1,by rw[en _ _ _ _ (by omega)];exact h2⟩
theorem E9{n k:Nat}(ax:k<n){src:List Int}(am:src.length=n):∀(m f:Nat) (D:List Nat) (G:Nat) (J owner:List Int),D.length<=m->D.length<f->um n k G J owner->G<n->(∀d∈D,d<n)->(G::D).Nodup->iy src owner k (G::D)->∃aL aG,k0 k src f G J owner=some (aL,aG)/\Cons n (k+1) aL aG:=by
 intro m;induction m with
 |zero=>intro f D G J owner hm hf H hc _ _ hp;obtain rfl:D=[]:=List.eq_nil_of_length_eq_zero (by omega);exact ya ax am f G J owner hf H hc (by rcases hp.1 with q|⟨e,he,_⟩;exact q;cases he)
 |succ m aQ=>
  intro f D G J owner hm hf H hc ab ak hp;rcases hp.1 with q|⟨e,he,q,aX⟩;·exact ya ax am f G J owner (by omega) H hc q
  ·obtain⟨f,rfl⟩:∃g,f=g+1:=⟨f-1,by omega⟩
   have aB:e≠G:=fun x=>by have:=(ny.1 ak).1;exact this (x▸he)
   obtain⟨ao,O,rfl⟩:=List.append_of_mem he;rcases H.b e (ab e he) aB with aJ|⟨i,aO,aJ,aS⟩;·omega
   ·rw[aJ]at q;unfold k0;rw[if_pos ⟨by omega,by rw[am];omega,by omega,by rw[q,H.lt];omega⟩];simp only[q];rw[if_neg (by omega),aS];simp only[dy];have aV:(ao++e::O).length=ao.length+(O.length+1):=by simp
    have aP:(e::O).Nodup:=((ny.1 ak).2.sublist (List.sublist_append_right _ _))
    have aN:∀d∈e::O,d≠G:=fun d hd x=>(ny.1 ak).1 (by rw[<-x];exact vK _ hd);refine aQ f O e _ _ (by omega) (by omega) ?_ (ab e he) (fun d hd=>ab d (vK _ (cW _ hd))) aP ?_
    ·refine⟨by simp[H.lt],by simp[H.lo],fun Y aj=> ?_,fun j hj aT=> ?_⟩
     ·by_cases x:Y=i;·subst x;exact⟨G,hc,fh _ _ _ (by rw[H.lt];omega),fh _ _ _ (by rw[H.lo];exact hc),fun y=>aB y.symm⟩
      ·obtain⟨j,hj,h1,h2,aM⟩:=H.a Y aj;refine⟨j,hj,by rw[en _ _ _ _ x];exact h1,by rw[en _ _ _ _ aM];exact h2,fun y=> ?_⟩;subst y;omega
     ·by_cases x:j=G;·subst x;exact .inr ⟨i,aO,fh _ _ _ (by rw[H.lo];exact hc),fh _ _ _ (by rw[H.lt];omega)⟩
      ·rw[en _ _ _ _ x];rcases H.b j hj x with h1|⟨Y,aj,h1,h2⟩;·exact .inl h1
       ·refine .inr ⟨Y,aj,h1,?_⟩;rw[en _ _ _ _ (fun y=>by subst y;omega)];exact h2
    ·exact iy.mono (fun d hd=>⟨rfl,en _ _ _ _ (aN d hd)⟩) (iy.tail hp.2)
theorem hX{α G:Type}{P:G->Prop}{f:G->α->G}:∀(l:List α) (b:G),P b->(∀b,∀x∈l,P b->P (f b x))->P (l.foldl f b)
 |[],_,h,_=>h
 |x::l,b,h,hf=>hX l (f b x) (hf b x eu h) fun b y hy=>hf b y (cW _ hy)
structure lf(n:Nat)(a:eB):Prop where
 u:a.u.length=n
 v:a.v.length=n
 c7:a.c7.length=n
 src:a.src.length=n
 done:a.done.length=n
theorem Fa{n:Nat}{owner:List Int}{delta:Int}(a0:eB)(Y:lf n a0)(aj:∀j:Nat,j<n->a0.done.getD j false=true->0<=ge owner j/\ge owner j<n):∃G,(aw n).foldl (kZ owner delta) (some a0)=some G/\lf n G/\G.src=a0.src/\G.done=a0.done:=by
 refine hX (P:=fun s=>∃G,s=some G/\lf n G/\G.src=a0.src/\G.done=a0.done) _ _ ⟨a0,rfl,Y,rfl,rfl⟩ ?_;rintro _ j hj ⟨G,rfl,l,O,J⟩;have ab:j<n:=by simpa using hj
 simp only[kZ];by_cases h:G.done.getD j false=true;·have:=aj j ab (by rw[<-J];exact h);rw[if_pos h,if_pos ⟨this.1,by rw[l.u];exact this.2⟩];exact⟨_,rfl,⟨by simp[l.u],by simp[l.v],l.c7,l.src,l.done⟩,O,J⟩
 ·rw[if_neg h];exact⟨_,rfl,⟨l.u,l.v,by simp[l.c7],l.src,l.done⟩,O,J⟩
theorem Fb{n:Nat}{c:List (List Int)}{r:Nat}(a0:eB)(aj:lf n a0):let G:=(aw n).foldl (iQ c r) a0
  lf n G/\G.done=a0.done/\G.u=a0.u/\G.v=a0.v/\(∀j:Nat,a0.done.getD j false=true->ge G.src j=ge a0.src j)/\∀j:Nat,j<n->ge G.src j=ge a0.src j\/ge G.src j=r:=by
 refine hX (P:=fun G=>lf n G/\G.done=a0.done/\G.u=a0.u/\G.v=a0.v/\(∀j:Nat,a0.done.getD j false=true->ge G.src j=ge a0.src j)/\∀j:Nat,j<n->ge G.src j=ge a0.src j\/ge G.src j=r) _ _ ⟨aj,rfl,rfl,rfl,fun _ _=>rfl,fun _ _=> .inl rfl⟩ ?_;rintro G j hj ⟨l,O,Y,ab,h1,h2⟩;have ak:j<n:=by simpa using hj
 simp only[iQ];split
 ·rename_i h;refine⟨⟨l.u,l.v,by simp[l.c7],by simp[l.src],l.done⟩,O,Y,ab,fun k J=> ?_,fun k J=> ?_⟩;·rw[en _ _ _ _ (fun x=>by subst x;rw[O]at h;rw[J]at h;cases h.1)];exact h1 k J
  ·by_cases x:k=j;·subst x;exact .inr (fh _ _ _ (by rw[l.src];exact J))
   ·simp only[en _ _ _ _ x];exact h2 k J
 ·exact⟨l,O,Y,ab,h1,h2⟩
theorem Fc{n:Nat}(a:eB){j:Nat}(hj:j<n)(hd:a.done.getD j false=false):∃k:Nat,p5 a n=k/\k<n/\a.done.getD k false=false:=by
 have key:∀m,m<=n->((aw m).foldl (e1 a) (-1)= -1/\(∀i,i<m->a.done.getD i false=true))\/∃k:Nat,(aw m).foldl (e1 a) (-1)=k/\k<n/\a.done.getD k false=false:=by
  intro m;induction m with
  |zero=>intro _;exact .inl ⟨rfl,fun i G=>by omega⟩
  |succ m O=>
   intro hm;rw[dx,dH,dK,fk];rcases O (by omega)with⟨e,h⟩|⟨k,e,J,h⟩
   ·rw[e];unfold e1;by_cases x:a.done.getD m false=false;·rw[if_pos ⟨x,.inl (by omega)⟩];exact .inr ⟨m,rfl,by omega,x⟩
    ·rw[if_neg (fun y=>x y.1)];refine .inl ⟨rfl,fun i G=> ?_⟩;by_cases y:i=m;·subst y;simpa using x
     ·exact h i (by omega)
   ·rw[e];unfold e1;split;·rename_i x;exact .inr ⟨m,rfl,by omega,x.1⟩
    ·exact .inr ⟨k,rfl,J,h⟩
 rcases key n (kI _)with⟨_,h⟩|h;·rw[h j hj]at hd;cases hd
 ·exact h
theorem ur(l:List Bool)(k:Nat)(v:Bool)(i:Nat):(l.set k v).getD i false=if i=k/\k<l.length then v else l.getD i false:=by
 simp only[bb,vV];by_cases h:k=i;·subst h;by_cases h2:k<l.length<;>simp[h2]
 ·have:¬i=k:=fun e=>h e.symm;simp[h,this]
structure uu(n k:Nat)(tq owner:List Int)(D:List Nat)(a:eB):Prop where
 l:lf n a
 nd:D.Nodup
 lt:∀d∈D,d<n
 done:∀j:Nat,j<n->(a.done.getD j false=true↔j∈D)
 own:∀d∈D,0<=ge owner d
 Fe:iy a.src owner k D
 yb:∀j:Nat,j<n->j∉D->uq a.src owner k D j
theorem uu.yc{n k:Nat}{G owner:List Int}{D:List Nat}{a:eB}(h:uu n k G owner D a)(C:Cons n k G owner):D.length<=k:=by
 have hs:D⊆(aw k).map (fun i:Nat=>(ge G i).toNat):=fun d hd=>by
  have:=h.own d hd;rcases C.b d (h.lt d hd)with q|⟨i,J,_,q⟩;·omega
  ·exact List.mem_map.2 ⟨i,ee.2 J,by omega⟩
 simpa using h.nd.length_le_of_subset hs
theorem Ff{n k:Nat}{c:List (List Int)}(aT:k<n){O owner:List Int}(C:Cons n k O owner):∀(f:Nat) (D:List Nat) (a:eB),uu n k O owner D a->n+1<=D.length+f->∃s,nU c n k O owner f a=some s/\s.u.length=n/\s.v.length=n/\Cons n (k+1) s.tq s.owner:=by
 intro f;induction f with
 |zero=>intro D a h hf;have:=h.yc C;omega
 |succ f aX=>
  intro D a h hf;have a1:=h.yc C;obtain⟨aY,am,aO⟩:∃j,j<n/\j∉D:=by apply Ko;intro aV;have hs:aw n⊆D:=fun j hj=>Ko fun x=>aV ⟨j,ee.1 hj,x⟩;have:=List.nodup_range.length_le_of_subset hs;simp at this;omega
  obtain⟨nx,e,hn,ao⟩:=Fc a am (by have:=mt (h.done aY am).1 aO;simpa using this)
  have ak:nx∉D:=fun x=>by rw[(h.done nx hn).2 x]at ao;cases ao
  unfold nU;simp only[e];rw[if_neg (by omega)];obtain⟨Y,aL,G,J,ab⟩:=Fa (owner:=owner) (delta:=ge a.c7 nx) {a with u:=a.u.set (k:Int).toNat (bS (ge a.u k+ge a.c7 nx))} ⟨by simp[h.l.u],h.l.v,h.l.c7,h.l.src,h.l.done⟩ (fun j hj hd=>by have aN:=(h.done j hj).1 hd;have:=h.own j aN;rcases C.b j hj with q|⟨i,aj,q,_⟩<;>omega)
  rw[aL];simp only at J ab⊢;have aP:uq Y.src owner k D nx:=by rw[J];exact h.yb nx hn ak
  have ax:iy Y.src owner k (nx::D):=⟨aP,by rw[J];exact h.Fe⟩
  by_cases hr:ge owner nx<0
  ·rw[if_pos hr];have H:um n k nx O owner:=by refine⟨C.lt,C.lo,fun i aj=> ?_,fun j hj _=>C.b j hj⟩;obtain⟨j,hj,h1,h2⟩:=C.a i aj;exact⟨j,hj,h1,h2,fun x=>by subst x;omega⟩
   obtain⟨a4,a2,aM,aG⟩:=E9 aT G.src D.length (n+1) D nx O owner (kI _) (by omega) H hn h.lt (ny.2 ⟨ak,h.nd⟩) ax;rw[aM];exact⟨_,rfl,G.u,G.v,aG⟩
  ·rw[if_neg hr];obtain⟨i,aj,aB,a3⟩:=(C.b nx hn).resolve_left (by omega);rw[if_neg (by omega)];rw[aB];obtain⟨l2,aJ,_,_,k2,r2⟩:=Fb (n:=n) (c:=c) (r:=i) {Y with done:=Y.done.set (nx:Int).toNat true} ⟨G.u,G.v,G.c7,G.src,by simp[G.done]⟩;refine aX (nx::D) _ ⟨l2,ny.2 ⟨ak,h.nd⟩,fun d hd=> ?_,fun j hj=> ?_,fun d hd=> ?_,?_,fun j hj aQ=> ?_⟩ (by simp;omega)
   ·rcases b8.1 hd with rfl|hd;·exact hn
    ·exact h.lt d hd
   ·rw[aJ];simp only[dy,ur,ab];by_cases x:j=nx;·subst x;simp[h.l.done,hj]
    ·simp only[x,false_and,if_false,b8,false_or];exact h.done j hj
   ·rcases b8.1 hd with rfl|hd;·omega
    ·exact h.own d hd
   ·refine iy.mono (fun d hd=>⟨k2 d ?_,rfl⟩) ax;simp only[dy,ur,ab];rcases b8.1 hd with rfl|hd;·simp[h.l.done,hn]
    ·by_cases x:d=nx;·simp[x,h.l.done,hn]
     ·simp only[x,false_and,if_false];exact(h.done d (h.lt d hd)).2 hd
   ·have aS:j∉D:=fun x=>aQ (cW _ x);rcases r2 j hj with q|q
    ·rcases h.yb j hj aS with p|⟨e,he,p,aZ⟩;·exact .inl (by rw[q];simp only[J];exact p)
     ·exact .inr ⟨e,cW _ he,by rw[q];simp only[J];exact p,aZ⟩
    ·exact .inr ⟨nx,eu,by rw[q,aB],by omega⟩
theorem Fg{n:Nat}{c:List (List Int)}{k:Nat}(a0:eB)(J:lf n a0):let G:=(aw n).foldl (kj c k) a0
  lf n G/\G.done=a0.done/\∀j:Nat,j<n->ge G.src j=k:=by
 have key:∀m,m<=n->lf n ((aw m).foldl (kj c k) a0)/\((aw m).foldl (kj c k) a0).done=a0.done/\∀j:Nat,j<m->ge ((aw m).foldl (kj c k) a0).src j=k:=by
  intro m;induction m with
  |zero=>intro _;exact⟨J,rfl,fun j hj=>by omega⟩
  |succ m O=>
   intro hm;obtain⟨l,e,h⟩:=O (by omega);rw[dx,dH,dK,fk];refine⟨⟨l.u,l.v,by simp[kj,l.c7],by simp[kj,l.src],l.done⟩,e,fun j hj=> ?_⟩;simp only[kj];by_cases x:j=m;·subst x;exact fh _ _ _ (by rw[l.src];omega)
   ·rw[en _ _ _ _ x];exact h j (by omega)
 exact key n (kI _)
theorem Fh{n k:Nat}{c:List (List Int)}(G:k<n)(s:fD)(J:s.u.length=n)(hv:s.v.length=n)(C:Cons n k s.tq s.owner):∃s',lV c n k s=some s'/\s'.u.length=n/\s'.v.length=n/\Cons n (k+1) s'.tq s'.owner:=by unfold lV;obtain⟨l,e,h⟩:=Fg (c:=c) (k:=k) ⟨s.u,s.v,cM n,cM n,aA n false⟩ ⟨J,hv,by simp[cM],by simp[cM],by simp⟩;refine Ff G C (n+1) [] _ ⟨l,List.nodup_nil,fun d hd=>(by cases hd),fun j hj=> ?_,fun d hd=>(by cases hd),trivial,fun j hj _=> .inl (h j hj)⟩ (by simp);rw[e];simp[bb,hj]
def jT(l:List Bool):Nat:=(l.filter fun b=> !b).length
theorem rA:∀(l:List Bool) (j:Nat),j<l.length->l.getD j false=false->jT (l.set j true)+1=jT l
 |[],j,h,_=>by simp at h
 |b::l,0,_,h=>by simp at h;subst h;simp[jT]
 |b::l,j+1,h,h2=>by have:=rA l j (by simpa using h) (by simpa using h2);cases b<;>simp[jT]at this⊢<;>omega
def lX(l l':List Bool):Prop:=l'.length=l.length/\jT l'<=jT l/\∀j,l.getD j false=true->l'.getD j false=true
theorem lX.set{l:List Bool}{j:Nat}(hj:j<l.length)(h:l.getD j false=false):lX l (l.set j true):=by
 refine⟨by simp,by have:=rA l j hj h;omega,fun i G=> ?_⟩;rw[ur];split;·rfl
 ·exact G
theorem lX.trans{a b c:List Bool}(h:lX a b)(k:lX b c):lX a c:=⟨k.1.trans h.1,Nat.le_trans k.2.1 h.2.1,fun j hj=>k.2.2 j (h.2.2 j hj)⟩
structure p9(n fixed r x:Nat)(used:List Bool)(tq tq' owner':List Int):Prop where
 lt:tq'.length=n
 lo:owner'.length=n
 a:∀i:Nat,i<n->i≠fixed->∃j:Nat,j<n/\ge tq' i=j/\ge owner' j=i/\j≠x
 b:∀j:Nat,j<n->j≠x->ge owner' j= -1\/∃i:Nat,i<n/\i≠fixed/\ge owner' j=i/\ge tq' i=j
 k:∀i:Nat,i<n->i≠r->used.getD (ge tq i).toNat false=true->ge tq' i=ge tq i
def rB(n fixed r x:Nat)(m:B8):Option (Bool×B8)->Prop
 |none=>False
 |some (false,m')=>m'.tq=m.tq/\m'.owner=m.owner/\lX m.used m'.used
 |some (true,m')=>p9 n fixed r x m.used m.tq m'.tq m'.owner
structure oZ(n fixed F r x:Nat)(m:B8):Prop where
 c:Cons n n m.tq m.owner
 f:ge m.tq fixed=F
 hf:F<n
 fo:ge m.owner F=fixed
 hr:fixed<r
 rn:r<n
 hx:ge m.tq r=x
 xn:x<n
 xo:ge m.owner x=r
 ux:m.used.getD x false=true
 ul:m.used.length=n
theorem Fi{n ab F:Nat}{tight:Int->Int->Bool}{rec:Int->B8->Option (Bool×B8)}{u:Nat}(bd:∀(r x:Nat) (m:B8),oZ n ab F r x m->jT m.used<u->rB n ab r x m (rec r m)){r x:Nat}:∀(aj:List Nat) (m:B8),(∀j∈aj,j<n)->oZ n ab F r x m->jT m.used<=u->rB n ab r x m (iR tight n ab F rec r aj m):=by
 intro aj;induction aj with
 |nil=>intro m _ _ _;exact⟨rfl,rfl,rfl,kI _,fun _ h=>h⟩
 |cons j aj aM=>
  intro m aP G aT;have hj:=aP j eu;have aL:∀j∈aj,j<n:=fun i Y=>aP i (cW _ Y);have bv:=G.hr;have aJ:=G.rn;have bg:=G.c.lt;have a9:=G.c.lo;unfold iR;split;·exact aM m aL G aT
  ·rename_i a8
   have aB:m.used.getD j false=false:=by
    cases q:m.used.getD j false with
    |false=>rfl
    |true=>exact absurd (.inl q) a8
   have aQ:j≠x:=fun e=>by rw[e,G.ux]at aB;cases aB
   split
   ·rename_i e;obtain rfl:j=F:=by omega
    refine⟨by simp[bg],by simp[a9],fun i Y aG=> ?_,fun c hc a3=> ?_,fun i Y ak _=> ?_⟩
    ·by_cases J:i=r;·subst J;exact⟨j,hj,by simpa using fh m.tq i j (by omega),fh _ _ _ (by omega),aQ⟩
     ·obtain⟨c,hc,h1,h2⟩:=G.c.a i Y;have a2:c≠j:=fun O=>by subst O;have:=G.fo;omega
      refine⟨c,hc,?_,?_,fun O=> ?_⟩;·simp only[dy];rw[en _ _ _ _ J];exact h1
      ·rw[en _ _ _ _ a2];exact h2
      ·subst O;have:=G.xo;omega
    ·by_cases J:c=j;·subst J;exact .inr ⟨r,aJ,by omega,fh _ _ _ (by omega),by simpa using fh m.tq r c (by omega)⟩
     ·simp only[dy];rw[en _ _ _ _ J];rcases G.c.b c hc with h1|⟨i,Y,h1,h2⟩;·exact .inl h1
      ·have ak:i≠r:=fun O=>by subst O;have:=G.hx;omega
       refine .inr ⟨i,Y,fun O=> ?_,h1,by rw[en _ _ _ _ ak];exact h2⟩;subst O;have:=G.f;omega
    ·simp only[dy];rw[en _ _ _ _ ak]
   ·rename_i a5;have bz:j≠F:=fun e=>a5 (by rw[e]);split
    ·rename_i bA;obtain⟨ao,a4,aV,aX⟩:=(G.c.b j hj).resolve_left (by omega);rw[if_neg (by omega),aV];have ba:ao≠r:=fun e=>by subst e;have:=G.hx;omega
     have aY:oZ n ab F ao j {m with used:=m.used.set j true}:=
      ⟨G.c,G.f,G.hf,G.fo,by omega,a4,aX,hj,aV,by simp[G.ul,hj],by simp[G.ul]⟩
     have bB:=rA m.used j (by rw[G.ul];exact hj) aB;have R:=bd ao j {m with used:=m.used.set j true} aY (by simp only;omega);have aO:=lX.set (l:=m.used) (by rw[G.ul];exact hj) aB;generalize rec ao {m with used:=m.used.set j true}=bm at R
     match bm,R with
     |some (true,m'),R=>
      have R:p9 n ab ao j (m.used.set j true) m.tq m'.tq m'.owner:=R;have aS:∀i:Nat,i<n->i≠ao->m.used.getD (ge m.tq i).toNat false=true->ge m'.tq i=ge m.tq i:=fun i Y h1 h2=>R.k i Y h1 (aO.2.2 _ h2);have bE:ge m'.tq r=x:=by rw[aS r aJ (fun e=>ba e.symm) (by rw[G.hx];exact G.ux)];exact G.hx
      have bC:ge m'.owner x=r:=by
       obtain⟨c,hc,h1,h2,_⟩:=R.a r aJ (by omega);have:c=x:=by omega
       subst this;exact h2
      show p9 n ab r x m.used m.tq (m'.tq.set (r:Int).toNat j) (m'.owner.set j r);simp only[dy];refine⟨by simp[R.lt],by simp[R.lo],fun i Y aG=> ?_,fun c hc a3=> ?_,fun i Y ak am=> ?_⟩
      ·by_cases J:i=r;·subst J;exact⟨j,hj,fh _ _ _ (by rw[R.lt];omega),fh _ _ _ (by rw[R.lo];omega),aQ⟩
       ·obtain⟨c,hc,h1,h2,a1⟩:=R.a i Y aG;refine⟨c,hc,by rw[en _ _ _ _ J];exact h1,by rw[en _ _ _ _ a1];exact h2,fun O=> ?_⟩;subst O;omega
      ·by_cases J:c=j;·subst J;exact .inr ⟨r,aJ,by omega,fh _ _ _ (by rw[R.lo];omega),fh _ _ _ (by rw[R.lt];omega)⟩
       ·rw[en _ _ _ _ J];rcases R.b c hc J with h1|⟨i,Y,aG,h1,h2⟩;·exact .inl h1
        ·exact .inr ⟨i,Y,aG,h1,by rw[en _ _ _ _ (fun O=>by subst O;omega)];exact h2⟩
      ·rw[en _ _ _ _ ak];refine aS i Y (fun O=> ?_) am;subst O;rw[aX]at am;simp only[dy]at am;rw[aB]at am;cases am
     |some (false,m'),R=>
      obtain⟨J,O,bq⟩:=(R:m'.tq=m.tq/\m'.owner=m.owner/\lX (m.used.set j true) m'.used)
      have ax:=aO.trans bq;have aZ:oZ n ab F r x m':=⟨by rw[J,O];exact G.c,by rw[J];exact G.f,G.hf,by rw[O];exact G.fo,G.hr,G.rn,by rw[J];exact G.hx,G.xn,by rw[O];exact G.xo,ax.2.2 _ G.ux,ax.1.trans G.ul⟩
      have:=aM m' aL aZ (by have:=ax.2.1;omega);show rB n ab r x m (iR tight n ab F rec r aj m');generalize iR tight n ab F rec r aj m'=bp at this
      match bp,this with
      |some (false,aN),h=>exact⟨h.1.trans J,h.2.1.trans O,ax.trans h.2.2⟩
      |some (true,aN),h=>have h:p9 n ab r x m'.used m'.tq aN.tq aN.owner:=h;rw[J]at h;exact⟨h.lt,h.lo,h.a,h.b,fun i Y ak am=>h.k i Y ak (ax.2.2 _ am)⟩
    ·exact aM m aL G aT
theorem Fj{n J F:Nat}{tight:Int->Int->Bool}:∀(f r x:Nat) (m:B8),oZ n J F r x m->jT m.used<f->rB n J r x m (jS tight n J F f r m):=by
 intro f;induction f with
 |zero=>intro r x m _ h;omega
 |succ f O=>intro r x m G h;unfold jS;exact Fi (u:=f) (fun r x m G h=>O r x m G h) (aw n) m (fun j hj=>ee.1 hj) G (by omega)
theorem Fk{n row:Nat}{tight:Int->Int->Bool}(ax:row<n):∀(J:List Nat) (G owner:List Int),(∀j∈J,(j:Int)<ge G row)->Cons n n G owner->∃p,kl tight n row J G owner=some p/\Cons n n p.1 p.2:=by
 intro J;induction J with
 |nil=>intro G owner _ C;exact⟨_,rfl,C⟩
 |cons j J aB=>
  intro G owner am C;have hj:=am j eu;have ao:∀j∈J,(j:Int)<ge G row:=fun i Y=>am i (cW _ Y);obtain⟨F,hF,ak,aL⟩:=C.a row ax;have O:j<n:=by omega
  unfold kl;split;·exact aB G owner ao C
  ·rename_i aO;have aT:¬ge owner j<row:=fun e=>aO (.inl e);obtain⟨r,hr,aG,aQ⟩:=(C.b j O).resolve_left (by omega);rw[if_neg (by omega),aG,ak];have aV:r≠row:=fun e=>by subst e;omega
   have aJ:oZ n row F r j ⟨(aA n false).set j true,G,owner⟩:=⟨C,ak,hF,aL,by omega,hr,aQ,O,aG,by simp[O],by simp⟩
   have aP:jT ((aA n false).set j true)<n+1:=by
    have:=rA (aA n false) j (by simpa using O) (by simp[bb,O]);have h2:jT (aA n false)=n:=by simp[jT]
    omega
   have R:=Fj (tight:=tight) (n+1) r j _ aJ aP;generalize jS tight n row F (n+1) r ⟨(aA n false).set j true,G,owner⟩=aS at R
   match aS,R with
   |some (false,m),R=>obtain⟨ab,aj,_⟩:=R;simp only at ab aj;show∃p,kl tight n row J m.tq m.owner=some p/\_;rw[ab,aj];exact aB G owner ao C
   |some (true,m),R=>
    have R:p9 n row r j ((aA n false).set j true) G m.tq m.owner:=R;refine⟨_,rfl,?_⟩;simp only[dy];refine⟨by simp[R.lt],by simp[R.lo],fun i Y=> ?_,fun c hc=> ?_⟩
    ·by_cases e:i=row;·subst e;exact⟨j,O,fh _ _ _ (by rw[R.lt];omega),fh _ _ _ (by rw[R.lo];omega)⟩
     ·obtain⟨c,hc,h1,h2,aM⟩:=R.a i Y e;exact⟨c,hc,by rw[en _ _ _ _ e];exact h1,by rw[en _ _ _ _ aM];exact h2⟩
    ·by_cases e:c=j;·subst e;exact .inr ⟨row,ax,fh _ _ _ (by rw[R.lo];omega),fh _ _ _ (by rw[R.lt];omega)⟩
     ·rw[en _ _ _ _ e];rcases R.b c hc e with h1|⟨i,Y,aN,h1,h2⟩;·exact .inl h1
      ·exact .inr ⟨i,Y,h1,by rw[en _ _ _ _ aN];exact h2⟩
theorem Fl{n row:Nat}{c:List (List Int)}(G:row<n)(s:fD)(C:Cons n n s.tq s.owner):∃s',mQ c n row s=some s'/\Cons n n s'.tq s'.owner:=by obtain⟨F,hF,O,Y⟩:=C.a row G;unfold mQ;rw[if_pos ⟨by omega,by omega⟩];obtain⟨p,e,J⟩:=Fk (tight:=gD c s.u s.v) G (aw (ge s.tq row).toNat) s.tq s.owner (fun j hj=>by have:=ee.1 hj;omega) C;rw[e];exact⟨_,rfl,J⟩
theorem wq(c:List (List Int)):∃s,nV c=some s/\Cons c.length c.length s.tq s.owner:=by
 have h1:∀k,k<=c.length->∃s,(aw k).foldl (fun s (i:Nat)=>s.bind (lV c c.length i)) (some ⟨cM c.length,cM c.length,aA c.length (-1),aA c.length (-1)⟩)=some s/\s.u.length=c.length/\s.v.length=c.length/\Cons c.length k s.tq s.owner:=by
  intro k;induction k with
  |zero=>intro _;refine⟨_,rfl,by simp[cM],by simp[cM],by simp,by simp,fun i ax=>by omega,fun j hj=> .inl ?_⟩;simp[ge,bb,hj]
  |succ k G=>intro aj;obtain⟨s,e,ak,hv,C⟩:=G (by omega);rw[dx,dH,e];exact Fh (by omega) s ak hv C
 obtain⟨am,Y,_,_,J⟩:=h1 c.length (kI _)
 have h2:∀k,k<=c.length->∃s,(aw k).foldl (fun s (i:Nat)=>s.bind (mQ c c.length i)) (some am)=some s/\Cons c.length c.length s.tq s.owner:=by
  intro k;induction k with
  |zero=>intro _;exact⟨_,rfl,J⟩
  |succ k G=>intro aj;obtain⟨s,e,C⟩:=G (by omega);rw[dx,dH,e];exact Fl (by omega) s C
 obtain⟨ao,ab,O⟩:=h2 c.length (kI _);exact⟨ao,by unfold nV;simp only;rw[Y,ab],O⟩
def kV(s:ByteArray):Nat->Nat->Int×Int
 |0,_=>(0,2)
 |f+1,i=>if mG (bt s i)=false then(i,1)else if bt s i=34 then(i+1,0)else if bt s i=92\/bt s i<32 then(0,2)else kV s f (i+1)
def lQ(s:ByteArray):Int×Int:=kV s (s.size-1) 1
theorem DR(w:World)(s:ByteArray)(hs:s.size<=140737488355328)(h1:1<=s.size):Calls ai 129 #[ah s] w fun e w'=>e= .returned (.tuple #[af ae (lQ s).1,af ae (lQ s).2])/\w=w':=by
 go_in;go_wp2_with fail;go_loop[4] (fun i=>∃n:Nat,n<=s.size/\i=af ae n/\Hid (kV s (s.size-n) n=lQ s)) (fun i=>s.size-(intOf i).toNat);case atStart=>exact⟨1,h1,rfl,rfl⟩
 case round=>
  obtain⟨n,hn,rfl,O⟩:=hrel;by_cases ab:n<s.size
  ·have aB:(0:Int)<=(n:Int):=by omega
   have aG:(n:Int)<(s.size:Int):=by omega
   have ao:((s[n]'ab).toNat:Int)=bt s n:=ei ab;have E:Hid ((if mG (bt s n)=false then((n:Int),(1:Int))else if bt s n=34 then((n:Int)+1,0)else if bt s n=92\/bt s n<32 then(0,2)else kV s (s.size-(n+1)) (n+1))=lQ s):=by unfold Hid;rw[<-O.out,show s.size-n=(s.size-(n+1))+1 by omega,kV]
   generalize bt s n=c at*;generalize h2:mG c=b2 at*;have aj:=aa h2;clear h2 O;go_wp2_with fail;refine(w5 _ c).mono ?_;rintro e w1 ⟨rfl,rfl⟩;rw[aj.out];cases b2;·go_wp2_with fail;go_ret2;exact⟨by rw[<-E.out];rfl,rfl⟩
   ·by_cases G:c=34
    ·have ak:(c==34)=true:=by simpa using G
     go_wp2_with fail;go_ret2;exact⟨by rw[<-E.out,if_neg (by simp),if_pos G];rfl,rfl⟩
    ·have ak:(c==34)=false:=by simpa using G
     by_cases J:c=92
     ·have am:(c==92)=true:=by simpa using J
      go_wp2_with fail;go_ret2;exact⟨by rw[<-E.out,if_neg (by simp),if_neg G,if_pos (.inl J)];rfl,rfl⟩
     ·have am:(c==92)=false:=by simpa using J
      by_cases Y:c<32;·go_wp2_with fail;go_ret2;exact⟨by rw[<-E.out,if_neg (by simp),if_neg G,if_pos (.inr Y)];rfl,rfl⟩
      ·have ax:decide (c<32)=false:=by simpa using Y
       go_wp2_with fail;go_round;case rel=>exact⟨n+1,by omega,by go_num,by unfold Hid;rw[<-E.out,if_neg (by simp),if_neg G,if_neg (by omega)]⟩
       case measure=>simp[intOf];omega
  ·go_wp2_with fail;go_ret2;exact⟨by rw[<-O.out,show s.size-n=0 by omega];rfl,rfl⟩
def xu:List (List UInt8):=[[109,111,100,117,108,101],[100,101,102],[116,121,112,101],[108,101,116],[105,110],[105,102],[116,104,101,110],[101,108,115,101],[116,114,117,101],[102,97,108,115,101],[73,110,116],[84,101,120,116],[66,111,111,108]]
def kW(s:ByteArray):Bool:=decide (s.data.toList∈xu)
theorem xv(w:World)(s:ByteArray):Calls ai 178 #[ah s] w fun e w'=>e= .returned (.bool (kW s))/\w=w':=by
 go_in;go_wp2_with fail;all_goals go_ret
 all_goals exact⟨by simp_all[kW,xu,eT],rfl⟩
theorem extract_size(s:ByteArray)(a b:Nat):(s.extract a b).size=min b s.size-a:=by simp[ByteArray.size_extract]
def tD(ub rb b1 b2 b3 n24 lb m24 rr ll:Bool)(n e:Int):Int×Int×Int:=
 match ub,rb,b1,b2,b3 with
 |true,false,true,true,true=>(match n24,m24 with|false,false=>(match rr,ll with|true,_=>(0,0,2)|false,true=>(3,e,0)|false,false=>(4,e,0))|_,_=>(0,0,3))
 |_,_,_,_,_=>(match n24,rb,lb with|true,_,_=>(0,0,3)|false,true,_=>(7,n,0)|false,false,true=>(1,n,0)|false,false,false=>(2,n,0))
def iM(s:ByteArray):Int×Int×Int:=
 let n:=di cn s 0;let m:=di cn (s.extract (n+1) s.size) 0
 tD (fc (bt s 0)) (kW (s.extract 0 n)) (decide (n+1<s.size)) (bt s n==46) (eI (bt s (n+1))) (decide (24<n)) (fU (bt s 0)) (decide (24<m)) (kW (s.extract (n+1) (n+1+m))) (fU (bt s (n+1))) n ((n+1+m:Nat):Int)
theorem pP(f:Int->Bool)(s:ByteArray)(i:Nat):di f s i<=s.size-i:=by
 unfold di
 have h1:∀l:List UInt8,(l.takeWhile fun c=>f (c.toNat:Int)).length<=l.length:=fun l=>by
  induction l with
  |nil=>simp
  |cons a l G=>rw[List.takeWhile_cons];split<;>simp;exact G
 have:=h1 (s.data.toList.drop i);rw[List.length_drop]at this;exact this
theorem DS(w:World)(s:ByteArray)(hs:s.size<=140737488355328)(h1:1<=s.size):Calls ai 126 #[ah s] w fun e w'=>e= .returned (.tuple #[af ae (iM s).1,af ae (iM s).2.1,af ae (iM s).2.2])/\w=w':=by
 have hn:=pP cn s 0;generalize hr:iM s=r;unfold iM at hr;dsimp only at hr;generalize aL:di cn s 0=n at*;have hm:=pP cn (s.extract (n+1) s.size) 0;rw[extract_size]at hm;generalize aJ:di cn (s.extract (n+1) s.size) 0=m at*;generalize aM:kW (s.extract 0 n)=rb at*;generalize aG:fU (bt s 0)=ao at*;generalize aN:fc (bt s 0)=bd at*;generalize aO:decide (n+1<s.size)=b1 at*;generalize aP:(bt s n==46)=b2 at*;generalize aQ:eI (bt s (n+1))=b3 at*;generalize aX:decide (24<n)=O at*;generalize aT:decide (24<m)=a9 at*;generalize aV:kW (s.extract (n+1) (n+1+m))=ba at*;generalize aS:fU (bt s (n+1))=a8 at*;have J:=aa hr.symm;have a2:=aa aL;have a1:=aa aJ;have a3:=aa aM;have am:=aa aG;have a5:=aa aN;have Y:=aa aO;have aB:=aa aP;have aY:=aa aQ;have G:=aa aX;have ax:=aa aT;have a4:=aa aV;have aZ:=aa aS;clear hr aL aJ aM aG aN aO aP aQ aX aT aV aS;have bg:((s[0]'(by omega)).toNat:Int)=bt s 0:=ei (by omega);go_in;go_wp2_with fail;refine(xt _ s hs).mono ?_;rintro e w1 ⟨rfl,rfl⟩;rw[a2.out];go_wp2_with fail;refine(xv _ _).mono ?_;rintro e w1 ⟨rfl,rfl⟩;rw[a3.out];go_wp2_with fail;refine(w4 _ _).mono ?_;rintro e w1 ⟨rfl,rfl⟩;rw[a5.out];cases bd
 ·cases O
  ·have ab:=G.out;have ak:¬24<n:=by simpa using G.out
   cases rb
   ·go_wp2_with fail;refine(oQ _ _).mono ?_;rintro e w1 ⟨rfl,rfl⟩;rw[am.out];cases ao
    iterate 2
     ·go_wp2_with fail;go_ret3;exact⟨by rw[J.out];try rfl,rfl⟩
   ·go_wp2_with fail;go_ret3;exact⟨by rw[J.out];try rfl,rfl⟩
  ·have aj:24<n:=by simpa using G.out
   go_wp2_with fail;go_ret3;exact⟨by rw[J.out];try rfl,rfl⟩
 ·cases rb
  ·cases b1
   ·have bq:=Y.out;have bv:¬n+1<s.size:=by simpa using Y.out
    have bz:¬(n:Int)+1<(s.size:Int):=by omega
    cases O
    ·have ab:=G.out;have ak:¬24<n:=by simpa using G.out
     go_wp2_with fail;refine(oQ _ _).mono ?_;rintro e w1 ⟨rfl,rfl⟩;rw[am.out];cases ao
     iterate 2
      ·go_wp2_with fail;go_ret3;exact⟨by rw[J.out];try rfl,rfl⟩
    ·have aj:24<n:=by simpa using G.out
     go_wp2_with fail;go_ret3;exact⟨by rw[J.out];try rfl,rfl⟩
   ·have hy:n<s.size:=by have:=(of_decide_eq_true Y.out:n+1<s.size);omega
    have bm:((s[n]'hy).toNat:Int)=bt s n:=ei hy;have bH:(n:Int)<(s.size:Int):=by omega
    have bJ:(n:Int)+1<(s.size:Int):=by have:=(of_decide_eq_true Y.out:n+1<s.size);omega
    cases b2
    ·have bA:=aB.out;cases O
     ·have ab:=G.out;have ak:¬24<n:=by simpa using G.out
      go_wp2_with fail;refine(oQ _ _).mono ?_;rintro e w1 ⟨rfl,rfl⟩;rw[am.out];cases ao
      iterate 2
       ·go_wp2_with fail;go_ret3;exact⟨by rw[J.out];try rfl,rfl⟩
     ·have aj:24<n:=by simpa using G.out
      go_wp2_with fail;go_ret3;exact⟨by rw[J.out];try rfl,rfl⟩
    ·have bB:=aB.out;have hx:=(of_decide_eq_true Y.out:n+1<s.size)
     have bp:((s[n+1]'hx).toNat:Int)=bt s (n+1):=ei hx;have bI:(n:Int)+1<(s.size:Int):=by omega
     go_wp2_with fail;refine(tj _ _).mono ?_;rintro e w1 ⟨rfl,rfl⟩;rw[aY.out];cases b3
     ·cases O
      ·have ab:=G.out;have ak:¬24<n:=by simpa using G.out
       go_wp2_with fail;refine(oQ _ _).mono ?_;rintro e w1 ⟨rfl,rfl⟩;rw[am.out];cases ao
       iterate 2
        ·go_wp2_with fail;go_ret3;exact⟨by rw[J.out];try rfl,rfl⟩
      ·have aj:24<n:=by simpa using G.out
       go_wp2_with fail;go_ret3;exact⟨by rw[J.out];try rfl,rfl⟩
     ·go_wp2_with fail;refine(xt _ _ (by rw[extract_size];omega)).mono ?_;rintro e w1 ⟨rfl,rfl⟩;rw[a1.out];cases O
      ·have ab:=G.out;have ak:¬24<n:=by simpa using G.out
       cases a9
       ·have bC:=ax.out;have bG:¬24<m:=by simpa using ax.out
        go_wp2_with fail;refine(xv _ _).mono ?_;rintro e w1 ⟨rfl,rfl⟩;rw[a4.out];cases ba
        ·go_wp2_with fail;refine(oQ _ _).mono ?_;rintro e w1 ⟨rfl,rfl⟩;rw[aZ.out];cases a8
         iterate 2
          ·go_wp2_with fail;go_ret3;exact⟨by rw[J.out];try rfl,rfl⟩
        ·go_wp2_with fail;go_ret3;exact⟨by rw[J.out];try rfl,rfl⟩
       ·have bE:24<m:=by simpa using ax.out
        go_wp2_with fail;go_ret3;exact⟨by rw[J.out];try rfl,rfl⟩
      ·have aj:24<n:=by simpa using G.out
       go_wp2_with fail;go_ret3;exact⟨by rw[J.out];try rfl,rfl⟩
  ·cases O
   ·have ab:=G.out;have ak:¬24<n:=by simpa using G.out
    go_wp2_with fail;go_ret3;exact⟨by rw[J.out];try rfl,rfl⟩
   ·have aj:24<n:=by simpa using G.out
    go_wp2_with fail;go_ret3;exact⟨by rw[J.out];try rfl,rfl⟩
inductive Db(k:Int):Prop where
 |k1 (h:k=1)
 |k2 (h:k=2)
 |k3 (h:k=3)
 |k4 (h:k=4)
 |k5 (h:k=5)
 |k6 (h:k=6)
 |k7 (h:k=7)
 |k8 (h:k=8)
 |k9 (h:k=9)
 |Dc (h:k=10)
 |Dd (h:k=11)
 |De (h:k=12)
 |Df (h:k=13)
 |Dg (h:k=14)
 |Dh (h:k=15)
 |lM (h:k=16)
 |nI (h:k=17)
 |Di (h:k=18)
 |Dj (h:k=19)
 |Dk (h:k=20)
 |oR (h:k=21)
 |Dl (h:k=22)
 |out (h:k<1\/22<k)
theorem Dm(k:Int):Db k:=by
 by_cases h:k<1\/22<k;·exact .out h
 ·by_cases G:k=1;·exact .k1 G
  by_cases aG:k=2;·exact .k2 aG
  by_cases aN:k=3;·exact .k3 aN
  by_cases aO:k=4;·exact .k4 aO
  by_cases aP:k=5;·exact .k5 aP
  by_cases aQ:k=6;·exact .k6 aQ
  by_cases aS:k=7;·exact .k7 aS
  by_cases aT:k=8;·exact .k8 aT
  by_cases aV:k=9;·exact .k9 aV
  by_cases J:k=10;·exact .Dc J
  by_cases O:k=11;·exact .Dd O
  by_cases Y:k=12;·exact .De Y
  by_cases ab:k=13;·exact .Df ab
  by_cases aj:k=14;·exact .Dg aj
  by_cases ak:k=15;·exact .Dh ak
  by_cases am:k=16;·exact .lM am
  by_cases ao:k=17;·exact .nI ao
  by_cases ax:k=18;·exact .Di ax
  by_cases aB:k=19;·exact .Dj aB
  by_cases aJ:k=20;·exact .Dk aJ
  by_cases aL:k=21;·exact .oR aL
  by_cases aM:k=22;·exact .Dl aM
  exact absurd (show k<1\/22<k by omega) h
def b9(k:Int)(n:Nat):Int:=
 if k=1 then 3
 else if k=2 then(if n<2 then-1 else if n=2 then 6 else n+3)
 else if k=16 then(if n=0 then 3 else n+2)
 else if k=18 then(if n=0 then-1 else n+1)
 else if k=3 then(if n=1 then 3 else-1)
 else if k=4\/k=8\/k=22 then(if n=1 then 2 else-1)
 else if k=17 then(if n=1 then 0 else-1)
 else if k=19 then(if n=3 then 3 else-1)
 else if k=20 then(if n=2 then 4 else-1)
 else if k=21 then(if n=2 then 1 else-1)
 else if k=5\/k=6\/k=7\/9<=k/\k<=15 then(if n=0 then 1 else-1)
 else-1
theorem w6{a b:Int}(h:a=b):BF (af ae a)= .returned (af ae b):=by rw[h]
theorem pK{a b:Bool}(h:a=b):BF (.bool a)= .returned (.bool b):=by rw[h]
theorem Dn(n:Nat)(must leads:Int)(w:World):Calls ai 157 #[af ae n,af ae must,af ae leads] w fun e w'=>(∃z,e= .returned (af ae z)/\z=if(n:Int)=must then leads else-1)/\w'=w:=by
 by_cases h:(n:Int)=must
 all_goals
  go_in;go_wp2_with fail;go_ret;simp
theorem Lq(k:Int)(n:Nat)(hn:n<=140737488355328)(w:World):Calls ai 109 #[af ae k,af ae n] w fun e w'=>e= .returned (af ae (b9 k n))/\w'=w:=by
 have G:=bA (n:=(n:Int)-3) (by omega);have J:=bA (n:=(n:Int)-1) (by omega);have O:=bA (n:=6+max 0 ((n:Int)-3)) (by omega);have Y:=bA (n:=3+max 0 ((n:Int)-1)) (by omega);have ab:=bA (n:=1+(n:Int)) (by omega);go_in;go_wp2_with(go_at_call 157;refine(Dn _ _ _ _).mono ?_;rintro e w1 ⟨⟨z,rfl,hz⟩,rfl⟩)
 all_goals
  go_ret;refine⟨w6 ?_,rfl⟩;clear G J O Y ab;simp only[beq_iff_eq,beq_eq_false_iff_ne,ne_eq]at*;unfold b9;omega
end Go.Proofs.YtdplggpbgommnaaGreatDoor
