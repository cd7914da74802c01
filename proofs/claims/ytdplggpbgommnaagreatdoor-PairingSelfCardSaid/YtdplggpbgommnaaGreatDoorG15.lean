/- Sorted lists of pairs. -/
import Derived.Test.YtdplggpbgommnaaGreatDoorG12
import Derived.ProofKit
import Derived.OpenShut
import Derived.Test.YtdplggpbgommnaaGreatDoorG14
open Bool renaming not_eq_true'→vI
open Go renaming bodyPost_ret→aF
open Go.DataW renaming TrodAll→sI,trod→vU
open Go.Instr renaming field→vY
open Go.IntKind renaming i64→ae
open Go.Lib renaming hid→aa
open Go.Obj renaming cells→au
open Go.Proofs.Tryz renaming prog→ai,underlying34→sD
open Go.Value renaming agg→aq,bool→ay,int→af,okWide→sJ,pointer→az,slice→ag,string→ah
open Go.World renaming cells?_some→Kj
open List renaming append_nil→jG,concat_eq_append→BP,cons_append→hv,getElem?_append_left→jD,getElem?_append_right→ih,getElem?_cons_succ→bQ,getElem?_cons_zero→bc,getElem?_eq_getElem→aE,getElem?_toArray→bw,head?_cons→KC,length_cons→bF,map_cons→cR,mem_cons_of_mem→cW,mem_cons→b8,mem_flatMap→hM,mergeSort_perm→po,pairwise_append→qE,pairwise_cons→fJ,sum_cons→hA
open List.Pairwise renaming imp_of_mem→pj
open List.cons renaming injEq→ii
open Nat renaming add_assoc→bP,add_mul→gN,add_zero→dz,le_refl→an,lt_or_ge→b7,zero_add→cO,zero_le→aW,zero_mul→gn
open Option.some renaming injEq→aC,inj→aU
set_option maxRecDepth 100000
set_option maxHeartbeats 2000000
namespace Go.Proofs.YtdplggpbgommnaaGreatDoor
open Go.RowKit
def fV(p q:Int×Int):Prop:=p.1<q.1∨p.1=q.1∧p.2<q.2
instance(p q:Int×Int):Decidable (fV p q):=by unfold fV;infer_instance
theorem xS{p q:Int×Int}(h:fV p q):¬fV q p:=by unfold fV at*;omega
theorem xT(p:Int×Int):¬fV p p:=by unfold fV;omega
theorem Er{p q:Int×Int}(h:p≠q):fV p q∨fV q p:=by
 unfold fV
 have:p.1≠q.1∨p.2≠q.2:=by
  rcases Decidable.em (p.1=q.1)with h1|h1;·exact .inr fun h2=>h (Prod.ext h1 h2)
  ·exact .inl h1
 omega
theorem xU:∀{l m:List (Int×Int)},l.Perm m→l.Pairwise fV→m.Pairwise fV→l=m
 |[],m,h,_,_=>by rw[List.nil_perm.1 h]
 |a::l,[],h,_,_=>by have:=h.length_eq;simp at this
 |a::l,b::m,h,A,E=>by
  have e:a=b:=by
   have h1:a∈b::m:=h.mem_iff.1 (by simp);have h2:b∈a::l:=h.mem_iff.2 (by simp);rcases b8.1 h1 with h1|h1;·exact h1
   ·rcases b8.1 h2 with h2|h2;·exact h2.symm
    ·exact absurd ((fJ.1 A).1 b h2) (xS ((fJ.1 E).1 a h1))
  subst e;rw[xU (List.Perm.cons_inv h) (fJ.1 A).2 (fJ.1 E).2]
theorem uc{l:List (Int×Int)}(E:l.Nodup):(cq l).Pairwise fV:=by
 have M:(cq l).Perm l:=po l _;have G:(cq l).Nodup:=M.nodup_iff.2 E
 have O:(cq l).Pairwise fun x y=>(!decide (kR y x<0))=true:=List.pairwise_mergeSort (fun a b c h1 h2=>by
  simp only[vI,decide_eq_false_iff_not,nM]at*;omega) (fun a b=>by
  simp only[Bool.or_eq_true,vI,decide_eq_false_iff_not,nM];omega) l
 refine(O.and G).imp ?_;rintro a b ⟨h1,h2⟩;simp only[vI,decide_eq_false_iff_not,nM]at h1;rcases Er h2 with A|A;·exact A
 ·exact absurd A h1
theorem Es{l m:List (Int×Int)}(h:l.Perm m)(A:m.Pairwise fV):cq l=m:=by
 have G:m.Nodup:=A.imp fun{a b} E e=>by subst e;exact xT _ E
 exact xU ((po l _).trans h) (uc (h.nodup_iff.2 G)) A
def iB(x:List aB):Int→Int→List Int→Prop
 |s,e,[]=>s=e
 |s,e,c::cs=>c=s∧iB x (s+(nd x c).size) e cs
theorem yM{X:List aB}{n:Nat}{v:aB}(h:X[n]? =some v):nd X (n:Int)=v:=nL h
mutual
theorem yN:∀(t:Tree) (p:Int) (n:Nat) (X:List aB),(∀m,m<t.size→X[n+m]? =(ej t p n)[m]?)→∀m,m<t.size→iB X (((n+m:Nat):Int)+1) (((n+m:Nat):Int)+(nd X ((n+m:Nat):Int)).size) (nd X ((n+m:Nat):Int)).kids
 | .node k s l E,p,n,X,h,m,A=>by
  have M:=yO E n (n+1) X (fun m A=>by have:=h (m+1) (by rw[Tree.size];omega);rw[ej,bQ]at this;rw[←this];congr 1;omega)
  cases m with
  |zero=>
   have G:=h 0 A;rw[ej,bc]at G;rw[yM G];simp only[dz];have e:((n:Int)+((ax E:Int)+1))=((n+1:Nat):Int)+(ax E:Int):=by omega
   rw[e];exact M.1
  |succ m=>have:=M.2 m (by rw[Tree.size]at A;omega);rw[show n+1+m=n+(m+1) by omega]at this;exact this
theorem yO:∀(ts:List Tree) (p n:Nat) (X:List aB),(∀m,m<ax ts→X[n+m]? =(eJ ts p n)[m]?)→iB X (n:Int) ((n:Int)+(ax ts:Int)) (dC ts n)∧∀m,m<ax ts→iB X (((n+m:Nat):Int)+1) (((n+m:Nat):Int)+(nd X ((n+m:Nat):Int)).size) (nd X ((n+m:Nat):Int)).kids
 |[],p,n,X,h=>by refine⟨by simp[dC,iB,ax],fun m A=>by simp[ax]at A⟩
 |t::ts,p,n,X,h=>by
  have O:0<t.size:=by have:=t.size_eq;omega
  have h1:∀m,m<t.size→X[n+m]? =(ej t p n)[m]? :=fun m A=>by rw[h m (by rw[gR];omega),w8,jD (by rw[lN];exact A)]
  have h2:∀m,m<ax ts→X[n+t.size+m]? =(eJ ts p (n+t.size))[m]? :=fun m A=>by have:=h (t.size+m) (by rw[gR];omega);rw[w8,ih (by rw[lN];omega),lN,Nat.add_sub_cancel_left]at this;rw[←this,bP]
  have k1:=yN t p n X h1;have k2:=yO ts p (n+t.size) X h2;refine⟨?_,?_⟩
  ·rw[dC,iB];refine⟨rfl,?_⟩;have E:=h1 0 O;rw[w7,bc,dz]at E;rw[yM E,gR];have e:(n:Int)+(t.size:Int)=((n+t.size:Nat):Int):=by omega
   have M:(n:Int)+((t.size+ax ts:Nat):Int)=((n+t.size:Nat):Int)+(ax ts:Int):=by omega
   rw[M];simp only;rw[e];exact k2.1
  ·intro m A;rcases b7 m t.size with G|G;·exact k1 m G
   ·have:=k2.2 (m-t.size) (by rw[gR]at A;omega);rw[show n+t.size+(m-t.size)=n+m by omega]at this;exact this
end
structure PO(x:List aB):Prop where
 wf:WF x
 sp:∀i:Int,0≤i→i<x.length→iB x (i+1) (i+(nd x i).size) (nd x i).kids
theorem kr(t:Tree):PO (aO t):=by refine⟨q4 t,fun i A h1=> ?_⟩;have:=yN t (-1) 0 (aO t) (fun m _=>by rw[cO];rfl) i.toNat (by rw[nJ]at h1;omega);rw[show((0+i.toNat:Nat):Int)=i by omega]at this;exact this
theorem iB.bd{x:List aB}:∀{cs:List Int} {s e:Int},iB x s e cs→(∀c∈cs,1≤(nd x c).size)→s≤e∧∀c∈cs,s≤c∧c+(nd x c).size≤e
 |[],s,e,h,_=>by simp only[iB]at h;subst h;exact⟨by omega,fun c G=>by simp at G⟩
 |c::cs,s,e,h,E=>by
  obtain⟨rfl,h⟩:=h;have h1:=E c (by simp);obtain⟨a,b⟩:=iB.bd h (fun d A=>E d (by simp[A]));refine⟨by omega,fun d A=> ?_⟩;rcases b8.1 A with rfl|A;·omega
  ·have:=b d A;omega
theorem iB.sep{x:List aB}:∀{cs:List Int} {s e:Int},iB x s e cs→(∀c∈cs,1≤(nd x c).size)→cs.Pairwise fun c d=>c+(nd x c).size≤d
 |[],s,e,_,_=>by simp
 |c::cs,s,e,h,E=>by obtain⟨rfl,h⟩:=h;rw[fJ];exact⟨fun d A=>((iB.bd h (fun d A=>E d (by simp[A]))).2 d A).1,iB.sep h (fun d A=>E d (by simp[A]))⟩
theorem PO.b4{x:List aB}(p:PO x){i c:Int}(A:0≤i)(h1:i<x.length)(M:c∈(nd x i).kids):i+1≤c∧c+(nd x c).size≤i+(nd x i).size:=
 ((p.sp i A h1).bd (fun d O=>by obtain⟨E,G,_⟩:=eK p.wf A h1 O;exact nP p.wf E G)).2 c M
theorem yP{R:Int→Int→Prop}:∀{l:List Int},l.Pairwise (·<·)→l.Pairwise R→∀{a b:Int},a∈l→b∈l→a<b→R a b
 |u::l,h1,h2,a,b,O,G,Y=>by
  rw[fJ]at h1 h2;rcases b8.1 O with e|E
  ·rcases b8.1 G with M|A;·omega
   ·rw[e];exact h2.1 b A
  ·rcases b8.1 G with M|A;·have:=h1.1 a E;omega
   ·exact yP h1.2 h2.2 E A Y
theorem PO.sep{x:List aB}(p:PO x){i c d:Int}(A:0≤i)(h1:i<x.length)(O:c∈(nd x i).kids)(E:d∈(nd x i).kids)(Y:c<d):c+(nd x c).size≤d:=
 yP (p.wf.gU i.toNat _ (gV A h1)) ((p.sp i A h1).sep (fun d E=>by obtain⟨G,M,_⟩:=eK p.wf A h1 E;exact nP p.wf G M)) O E Y
def c8(k:Int×Int→List (Int×Int)):Nat→Int×Int→List (Int×Int)
 |0,_=>[]
 |f+1,p=>p::(k p).flatMap (c8 k f)
structure KA(x y:List aB)(k:Int×Int→List (Int×Int)):Prop where
 kf:KF x y k
 gU:∀p,bZ x y p→c6 (k p)
section
variable {x y:List aB} {k:Int×Int→List (Int×Int)}
theorem KA.kids(K:KA x y k)(Y:PO x)(ab:PO y){p q:Int×Int}(A:bZ x y p)(O:q∈k p):bZ x y q∧q.1∈(nd x p.1).kids∧q.2∈(nd y p.2).kids:=by obtain⟨h1,_,G,M⟩:=K.kf.inr p A q O;have g1:=rh Y.wf h1.1 h1.2.1 (by rw[G];exact A.1);have E:=rh ab.wf h1.2.2.1 h1.2.2.2 (by rw[M];exact A.2.2.1);rw[G]at g1;rw[M]at E;exact⟨h1,g1,E⟩
theorem qa(K:KA x y k)(G:PO x)(M:PO y):∀(f:Nat) (p:Int×Int),bZ x y p→∀r∈c8 k f p,bZ x y r∧p.1≤r.1∧r.1<p.1+(nd x p.1).size∧p.2≤r.2∧r.2<p.2+(nd y p.2).size
 |0,p,_,r,E=>by simp[c8]at E
 |f+1,p,A,r,E=>by
  rw[c8]at E;rcases b8.1 E with rfl|E;·have:=nP G.wf A.1 A.2.1;have:=nP M.wf A.2.2.1 A.2.2.2;exact⟨A,by omega,by omega,by omega,by omega⟩
  ·obtain⟨q,O,E⟩:=hM.1 E;obtain⟨q1,Y,ab⟩:=K.kids G M A O;obtain⟨r0,ac,ad,aj,ak⟩:=qa K G M f q q1 r E;have a:=G.b4 A.1 A.2.1 Y;have b:=M.b4 A.2.2.1 A.2.2.2 ab;exact⟨r0,by omega,by omega,by omega,by omega⟩
theorem uD(K:KA x y k)(E:PO x)(G:PO y):∀(f:Nat) (p:Int×Int),bZ x y p→c6 (c8 k f p)
 |0,p,_=>by simp[c8,c6]
 |f+1,p,A=>by
  rw[c8];unfold c6;rw[fJ];refine⟨fun r O=> ?_,?_⟩;·obtain⟨q,M,O⟩:=hM.1 O;obtain⟨q1,Y,ab⟩:=K.kids E G A M;obtain⟨r0,ad,aj,ak,ax⟩:=qa K E G f q q1 r O;have a:=E.b4 A.1 A.2.1 Y;have b:=G.b4 A.2.2.1 A.2.2.2 ab;omega
  ·rw[List.pairwise_flatMap];refine⟨fun q M=>uD K E G f q (K.kids E G A M).1,?_⟩;refine pj ?_ (K.gU p A);intro q r M O ac u am v ao;obtain⟨q1,Y,ab⟩:=K.kids E G A M;obtain⟨ad,aj,ak⟩:=K.kids E G A O;obtain⟨_,aB,aG,aJ,aL⟩:=qa K E G f q q1 u am;obtain⟨_,aM,aN,aO,aP⟩:=qa K E G f r ad v ao;have a:=E.sep A.1 A.2.1 Y aj ac.1;have b:=G.sep A.2.2.1 A.2.2.2 ab ak ac.2;omega
theorem yQ(_K:KF x y k){f:Nat}{p:Int×Int}(A:bZ x y p)(h:(x.length:Int)-p.1≤f):p∈c8 k f p:=by
 obtain⟨f,rfl⟩:∃g,f=g+1:=⟨f-1,by have:=A.2.1;omega⟩
 rw[c8];simp
theorem yR(K:KF x y k):∀(f:Nat) (p:Int×Int),bZ x y p→(x.length:Int)-p.1≤f→∀r∈c8 k f p,∀q∈k r,q∈c8 k f p
 |0,p,G,h,r,A,q,E=>by simp[c8]at A
 |f+1,p,G,h,r,A,q,E=>by
  rw[c8]at A⊢;refine cW _ (hM.2 ?_);rcases b8.1 A with rfl|A;·obtain⟨q1,Y,_⟩:=K.inr r G q E;exact⟨q,E,yQ K q1 (by omega)⟩
  ·obtain⟨s,M,A⟩:=hM.1 A;obtain⟨O,ab,_⟩:=K.inr p G s M;exact⟨s,M,yR K f s O (by omega) r A q E⟩
theorem yS{l:List (Int×Int)}(E:∀p∈l,∀q∈k p,q∈l):∀(f:Nat) (p:Int×Int),p∈l→∀r∈c8 k f p,r∈l
 |0,p,_,r,A=>by simp[c8]at A
 |f+1,p,G,r,A=>by
  rw[c8]at A;rcases b8.1 A with rfl|A;·exact G
  ·obtain⟨q,M,A⟩:=hM.1 A;exact yS E f q (E p G q M) r A
theorem rI(A:PO x)(E:PO y):bZ x y (0,0):=⟨by simp,by have:=A.wf.pos;simp only;omega,by simp,by have:=E.wf.pos;simp only;omega⟩
theorem F5{l:List (Int×Int)}(h:c6 l):l.Pairwise fV:=h.imp fun A=> .inl A.1
theorem F6{l:List (Int×Int)}(h:c6 l):l.Nodup:=h.imp fun{a b} A e=>by subst e;omega
theorem F7(K:KF x y k)(O:PO x)(Y:PO y){l:List (Int×Int)}(g:Good x y k l l.length):∀(n:Nat) (r:Int×Int),r∈l→r.1≤n→r∈c8 k x.length (0,0):=by
 intro n;induction n using Nat.strongRecOn with
 |_ n ab=>
  intro r A ad;rw[g.eq,List.take_length]at A;rcases b8.1 A with rfl|A;·exact yQ K (rI O Y) (by simp)
  ·obtain⟨p,G,M⟩:=hM.1 A;have E:=g.inr p G;obtain⟨q1,aj,_⟩:=K.inr p E r M;have ac:=E.1;exact yR K _ _ (rI O Y) (by simp) p (ab (p.1.toNat) (by omega) p G (by omega)) r M
theorem yT(K:KA x y k)(E:PO x)(G:PO y){l:List (Int×Int)}(g:Good x y k l l.length):cq l=c8 k x.length (0,0):=by
 have M:=uD K E G x.length (0,0) (rI E G);refine Es ((List.perm_ext_iff_of_nodup g.nodup (F6 M)).2 fun r=>⟨fun A=> ?_,fun A=> ?_⟩) (F5 M);·exact F7 K.kf E G g r.1.toNat r A (by omega)
 ·obtain⟨c1,c2⟩:=pY g;exact yS c2 _ _ c1 r A
def eO(x y:List aB)(l:List (Int×Int)):Int:=(l.map fun p=>cZ (nd x p.1).text (nd y p.2).text-2).sum
theorem F8{pre:List (Int×Int)}{p:Int×Int}{A:List (Int×Int)}(h:c6 (pre++p::A))(E:0≤p.1∧0≤p.2):(fe pre).1<p.1∧(fe pre).2<p.2:=by
 rcases List.eq_nil_or_concat pre with rfl|⟨a,z,rfl⟩;·simp[fe];omega
 ·unfold fe;rw[BP,List.getLastD_concat];rw[BP]at h;exact(qE.1 h).2.2 z (by simp) p (by simp)
theorem yU(ak:PO x)(aB:PO y):∀(A pre:List (Int×Int)) (c:Int),c6 (pre++A)→(∀q∈pre++A,bZ x y q∧(nd x q.1).kind=(nd y q.2).kind)→(pre++A).head?=some (0,0)→(∀q∈A,q≠(0,0)→fC x y q∈pre++A)→gB x y pre A c=some (c+eO x y A)
 |[],pre,c,_,_,_,_=>by simp[gB,eO]
 |p::A,pre,c,M,ac,G,aj=>by
  have E:=ac p (by simp);have ad:=F8 M ⟨E.1.1,E.1.2.2.1⟩
  have ab:p=(0,0)↔pre=[]:=by
   constructor
   ·intro e;cases pre with
    |nil=>rfl
    |cons z pre=>exfalso;simp only[hv,KC,aC]at G;have:=(fJ.1 M).1 p (by simp);rw[G,e]at this;simp at this
   ·intro e;subst e;simpa using G
  have am:kg x y pre p:=by
   refine⟨ad.1,ad.2,E.1.2.1,E.1.2.2.2,E.2,ab,?_⟩;by_cases e:p=(0,0);·exact .inl e
   ·right;have O:=aj p (by simp) e;have Y:pre≠[]:=fun h=>e (ab.2 h);rcases List.mem_append.1 O with O|O;·exact O
    ·exfalso
     have aL:0<p.1:=by
      cases pre with
      |nil=>exact absurd rfl Y
      |cons z pre=>simp only[hv,KC,aC]at G;have:=(fJ.1 M).1 p (by simp);rw[G]at this;exact this.1
     obtain⟨j,aN,_,aM,ax,_⟩:=ak.wf.par p.1.toNat _ (gV E.1.1 E.1.2.1) (by omega);have aJ:(fC x y p).1<p.1:=by unfold fC;simp only;rw[ax];omega
     have aG:p.1≤(fC x y p).1:=by
      rcases b8.1 O with h|h;·rw[h];omega
      ·have:=(fJ.1 (qE.1 M).2.1).1 _ h;omega
     omega
  rw[gB,if_pos am,yU ak aB A (pre++[p]) _ (by simpa using M) (by simpa using ac) (by simpa using G) (fun q ao Y=>by have:=aj q (by simp[ao]) Y;simpa using this)]
  simp only[eO,cR,hA,aC];omega
theorem uE(O:PO x)(Y:PO y){l:List (Int×Int)}(A:c6 l)(G:∀q∈l,bZ x y q∧(nd x q.1).kind=(nd y q.2).kind)(E:l.head?=some (0,0))(M:∀q∈l,q≠(0,0)→fC x y q∈l):dP x y l=some (x.length+y.length+eO x y l):=by unfold dP;exact yU O Y l [] _ (by simpa using A) (by simpa using G) (by simpa using E) (by simpa using M)
theorem yV(K:KF x y k):∀(f:Nat) (p:Int×Int),bZ x y p→∀q∈c8 k f p,q≠p→fC x y q∈c8 k f p
 |0,p,_,q,A,_=>by simp[c8]at A
 |f+1,p,M,q,A,G=>by
  rw[c8]at A⊢;rcases b8.1 A with h|A;·exact absurd h G
  ·obtain⟨s,E,A⟩:=hM.1 A;obtain⟨O,_,Y,ab⟩:=K.inr p M s E;by_cases e:q=s;·subst e;have:fC x y q=p:=Prod.ext Y ab;rw[this];simp
   ·exact cW _ (hM.2 ⟨s,E,yV K f s O q A e⟩)
theorem yW{Q:Int×Int→Prop}(K:KF x y k)(E:∀p,bZ x y p→∀q∈k p,Q q):∀(f:Nat) (p:Int×Int),bZ x y p→Q p→∀q∈c8 k f p,Q q
 |0,p,_,_,q,A=>by simp[c8]at A
 |f+1,p,G,h,q,A=>by
  rw[c8]at A;rcases b8.1 A with rfl|A;·exact h
  ·obtain⟨s,M,A⟩:=hM.1 A;exact yW K E f s (K.inr p G s M).1 (E p G s M) q A
theorem yX(K:KA x y k)(A:PO x)(G:PO y)(Y:∀p,bZ x y p→∀q∈k p,(nd x q.1).kind=(nd y q.2).kind)(O:(nd x 0).kind=(nd y 0).kind):dP x y (c8 k x.length (0,0))=some (x.length+y.length+eO x y (c8 k x.length (0,0))):=by
 have E:=rI A G;refine uE A G (uD K A G _ _ E) (fun q M=>⟨(qa K A G _ _ E q M).1,yW (Q:=fun q=>(nd x q.1).kind=(nd y q.2).kind) K.kf Y _ _ E O q M⟩) ?_ (yV K.kf _ _ E);have:=A.wf.pos;obtain⟨n,ab⟩:∃n,x.length=n+1:=⟨x.length-1,by omega⟩
 rw[ab,c8];rfl
theorem qc(p:Int×Int)(l:List (Int×Int)):eO x y (p::l)=cZ (nd x p.1).text (nd y p.2).text-2+eO x y l:=by simp[eO]
theorem F9(l m:List (Int×Int)):eO x y (l++m)=eO x y l+eO x y m:=by simp[eO]
theorem yY(g:Int×Int→List (Int×Int)):∀(l:List (Int×Int)),eO x y (l.flatMap g)=(l.map fun q=>eO x y (g q)).sum
 |[]=>rfl
 |q::l=>by rw[List.flatMap_cons,F9,yY g l,cR,hA]
theorem qd(x y:List aB):∀(l:List (Int×Int)),-2*(l.length:Int)≤eO x y l∧eO x y l≤-(l.length:Int)
 |[]=>by simp[eO]
 |p::l=>by have:=qd x y l;have:=mM (nd x p.1).text (nd y p.2).text;rw[qc,bF];omega
end
def ud(s:ByteArray):Tree:= .node 10 s [] []
def Et(t:Tree):Tree:= .node 17 ⟨#[]⟩ [] [t]
def xV(ts:List Tree):Tree:= .node 16 ⟨#[102]⟩ [] (ts.map Et)
def Eu:Tree:=xV [ud ⟨#[49]⟩,ud ⟨#[50]⟩]
def Ev:Tree:=xV [ud ⟨#[50]⟩]
def tC:kd:=bE (aO Eu) (aO Ev) 0
theorem Ew(w:World):ao (fun _=>none) w:=fun _ _ h=>by cases h
section
variable {w:World} {g1:Nat} {ca cb:Array Value} {h7 lT:Hp} {ap ar KN KO:Option Addr} {cp cr KP KQ:Nat} {iP:World}
end
open Go.RowKit Go.ChangeShapes Go.WideShapes
theorem Ex(w:World):ao (bi w) w:=fun _ _ h=>h
theorem xW{w:World}{a:Addr}{v:Value}(h:w.cell? a=some v):a.spot=none∧∃c,bi w a.block=some c∧c[a.off]? =some v:=by
 unfold World.cell? at h;split at h
 ·rename_i c e f A;split at h;·cases h
  ·rename_i E;refine⟨by simpa using E,c,by simp[bi,A],h⟩
 ·cases h
theorem Ey{H:Type}(d:DataW H)(r:List (DataW H)):Rows.uptoBulkAll (d::r)=Rows.uptoBulk d+Rows.uptoBulkAll r:=by rw[Rows.uptoBulkAll]
section
variable {H:Type} {enc:TypeId×Value→H} {w:World} {sp:Nat→Bool} {held:Bool}
theorem xX{α:Type}(R:α→List Value→Prop)(m:α→Nat)(k:Nat)(b G:Nat):∀(A:List (DataW H×List MemPlace)) (j:Nat),(∀i (O:i<A.length),∃x c,R x c∧c.length=k∧(∀q,q<k→w.cell? ⟨b,G+(j+i)*k+q,none⟩=c[q]?)∧m x≤Rows.uptoBulk A[i].1)→∃(l:List α) (xs:List Value),l.length=A.length∧aJ R l xs∧xs.length=A.length*k∧(∀q,q<A.length*k→w.cell? ⟨b,G+j*k+q,none⟩=xs[q]?)∧(l.map m).sum≤Rows.uptoBulkAll (A.map (·.1))
 |[],j,_=>⟨[],[],rfl,rfl,by simp,fun q E=>by simp at E,by simp⟩
 |e::A,j,h=>by
  obtain⟨x,c,aB,M,ao,ax⟩:=h 0 (by simp);obtain⟨l,xs,h1,h2,ak,am,aG⟩:=xX R m k b G A (j+1) (fun i O=>by obtain⟨x,c,ab,ac,ad,aj⟩:=h (i+1) (by simpa using O);refine⟨x,c,ab,ac,fun q E=> ?_,by simpa using aj⟩;rw[←ad q E,show j+1+i=j+(i+1) by omega])
  refine⟨x::l,c++xs,by simp[h1],⟨c,xs,rfl,aB,h2⟩,by simp only[List.length_append,bF,M,ak,gN];omega,fun q E=> ?_,?_⟩
  ·rcases b7 q k with Y|Y;·rw[jD (by omega),←ao q Y,dz]
   ·rw[ih (by omega),M,←am (q-k) (by simp only[bF,gN]at E;omega)];congr 2;rw[gN];omega
  ·simp only[cR,hA,Ey];simp only[List.getElem_cons_zero]at ax;omega
theorem Ez{n:Int}(h:(Lit.int ae n).wf=true):aG n:=bounds_i64 h
theorem EA{t:TypeId}(G:ai.underlying t=some (.int .i64)){A:Nat}{cs:List Value}{x:DataW H×List MemPlace}(h:vU enc ai w 0 sp held A t cs=some x):∃n,cs=[af ae n]∧aG n:=by obtain⟨n,h1,_,E⟩:=DataW.trod_int G h;exact⟨n,h1,Ez E⟩
def xY(n:Int)(c:List Value):Prop:=c=[af ae n]∧aG n
theorem xZ:∀{l:List Int} {xs:List Value},aJ xY l xs→xs=l.map (af ae)∧∀q∈l,aG q
 |[],xs,h=>by simp only[aJ]at h;subst h;simp
 |n::l,xs,⟨a,r,e,h1,h2⟩=>by
  obtain⟨E,G⟩:=xZ h2;refine⟨by rw[e,h1.1,E];rfl,fun q A=> ?_⟩;rcases b8.1 A with rfl|A;·exact h1.2
  ·exact G q A
theorem x0{W O:World}(G:Below W.heap.size W O){aj:Nat→Bool}(Y:laidOutB ai=true):∀{ts:List TypeId} {vs:List Value} {ds:List (DataW H)} {E:List MemPlace},(∀t∈ts,ai.readableRec t=true∧t<ai.types.size)→sI enc ai W 0 (fun _=>true) true ts vs ds E→(∀p∈E,p.block<W.heap.size)→(∀p∈E,aj p.block=true)→sI enc ai O 0 aj true ts vs ds E
 |[],vs,ds,E,_,h,_,_=>by obtain⟨rfl,rfl,rfl⟩:=trodAll_nil h;rfl
 |t::ts,vs,ds,E,M,h,ab,ad=>by
  obtain⟨v,ax,d,ao,a,b,rfl,rfl,rfl,h1,h2⟩:=trodAll_cons h;refine⟨a,b,WideElems.Trod_stays Y (M t (by simp)).1 (M t (by simp)).2 h1 (fun p A=> ?_) (fun p A=>ad p (by simp[A])),x0 G Y (fun u ak=>M u (by simp[ak])) h2 (fun p A=>ab p (by simp[A])) (fun p A=>ad p (by simp[A])),rfl⟩;have ac:=ab p (by simp[A]);cases p with
  |cell bk am=>exact G.cell (p:=⟨bk,am,none⟩) ac
  |map bk=>exact G.block bk ac
theorem EB{W E:World}(A:Below W.heap.size W E)(M:MemPlace→Prop):W.keptBut E M:=by
 refine⟨A.os,A.output,fun i G=> ?_⟩;rw[A.block i G];cases W.heap[i]?with
 |none=>rfl
 |some o=>cases o<;>simp
theorem EC{f:Func}{s:ChangeSpec}{W E:World}{args:Array Value}{ds gs:List (DataW H)}{aM:List MemPlace}{T:TypeId}(aO:laidOutB ai=true)(aS:∀t∈f.params.toList,ai.readableRec t=true∧t<ai.types.size)(aG:s.vars=[])(ax:f.resultTypes= #[T])(ac:ai.underlying T=some .bool)(O:DataW.Whole enc ai f.params.toList s.vars false W args.toList ds gs aM)(M:s.fn H (ds++gs)={results:=[.lit (.bool true)],args:=ds})(Y:Below W.heap.size W E):s.post enc ai f false true false false W args (ay true) E:=by
 have G:=O.lt;have aj:=O;obtain⟨p,q,aN,ad,rfl,ao,_⟩:=O;rw[aG]at ad;obtain⟨rfl,rfl⟩:=trodVars_none ad;simp only[jG]at M ao G aj⊢;have aB:∀(b:Nat) (sp:Nat→Bool) (am:Bool),sI enc ai E b sp am f.resultTypes.toList ((ay true).resultList f.resultTypes.size) (s.fn H (ds++[])).results []:=fun b sp am=>by rw[jG,M,ax];exact trodAll_cons_mk (shut_bool ac _) trodAll_mk0
 have ak:∀sp:Nat→Bool,(∀x∈p,sp x.block=true)→sI enc ai E 0 sp true f.params.toList args.toList (s.fn H (ds++[])).args p:=fun sp aQ=>by rw[jG,M];exact x0 Y aO aS aN G aQ
 have aJ:∀sp:Nat→Bool,DataW.TrodVars enc ai E sp s.vars (s.fn H (ds++[])).vars []:=fun sp=>by rw[jG,M,aG];rfl
 have aP:∀x∈p,(fun b=>decide (b<W.heap.size)) x.block=true:=fun x A=>by simpa using G x A
 refine⟨ds,[],p,[],p,[],aj,aB _ _ _,ak _ aP,aJ _,World.keptBut_mono (fun x A=>⟨A,Or.inr (by simpa using A)⟩) (EB Y (·∈p)),fun _=> ?_⟩;refine⟨ok_one ax rfl (okWide_bool_mk ac _),_,_,([]++p)++[],⟨[]++p,[],trodAll_append (ak _ (fun _ _=>rfl)) (aB _ _ _),aJ _,rfl,?_,fun h=>by cases h⟩,?_⟩
 ·intro b ab A;have aL:MemPlace.cell b ab∈p:=by simpa using A
  rw[Y.frozen (p:=⟨b,ab,none⟩) (G _ aL)];exact ao b ab aL
 ·intro x A _;simpa using A
end
theorem ED{x y:List aB}{l:List (Int×Int)}(g:Good x y (kp x y) l l.length):∃r,cq l=(0,0)::r:=by
 have G:=uc g.nodup;have A:(0,0)∈cq l:=kh.2 (pY g).1;cases hl:cq l with
 |nil=>rw[hl]at A;simp at A
 |cons p r=>
  rw[hl]at G A;rcases b8.1 A with A|A;·exact⟨r,by rw[A]⟩
  ·have E:=(fJ.1 G).1 _ A;have M:p∈l:=kh.1 (by rw[hl];simp);have:=g.inr p M;unfold fV at E;unfold bZ at this;simp only at E;omega
theorem EE{x y:List aB}(Y:WF x)(hy:WF y){m:kd}(ak:pU x y m)(aj:m.gT=true){M:List (Int×Int)}{c:Int}(A:dP x y M=some c):m.cost≤c:=by
 obtain⟨h1,_,ad⟩:=ak;obtain⟨_,E⟩:=ad aj;by_cases G:(nd x 0).kind=(nd y 0).kind
 ·rw[if_pos G]at E;obtain⟨k1,k2,k3⟩:=E;cases hb:fB x y m.proof.length with
  |none=>rw[hb]at k1;cases k1
  |some l=>
   rw[hb]at k1;simp only[Option.map_some,aC]at k1;have g:=(rq Y hy hb).1;obtain⟨r,O⟩:=ED g;have ao:=Eg Y hy m.proof l g (fun q=>by rw[←k1];exact kh) k2 M c A
   have:bG m.proof (0,0)=m.cost:=by
    rw[←k3];cases hpf:m.proof with
    |nil=>rw[hpf,O]at k1;simp at k1
    |cons e am=>rw[hpf,O]at k1;simp only[cR,ii]at k1;rw[ra,if_pos k1.1];rfl
   omega
 ·rw[if_neg G]at E;rw[E.2]at h1;cases M with
  |nil=>rw[h1]at A;have:=aU A;omega
  |cons p ax=>
   exfalso;unfold dP at A;rw[gB]at A;split at A;·rename_i ab;have ac:p=(0,0):=ab.2.2.2.2.2.1.2 rfl;subst ac;exact G ab.2.2.2.2.1
   ·cases A
theorem rO(k:Int)(l t:ByteArray)(w:World):(vY 95 (aq #[af ae k,ah l,ah t]) 0).run ai w= .ok (af ae k) w:=by kernel_rfl
theorem rP(k:Int)(l t:ByteArray)(w:World):(vY 95 (aq #[af ae k,ah l,ah t]) 1).run ai w= .ok (ah l) w:=by kernel_rfl
theorem nX(k:Int)(l t:ByteArray)(w:World):(vY 95 (aq #[af ae k,ah l,ah t]) 2).run ai w= .ok (ah t) w:=by kernel_rfl
theorem o3(h:Hp)(w:World)(G:ao h w)(p:Nat)(t:cU)(ts:List cU)(q:bJ h w p (t::ts))(s:ByteArray)(ak:t.text=s):Calls ai 90 #[az (some ⟨p,0,none⟩),ah s] w fun e w'=>e= .returned (ah t.lead)∧bB p h w h w'∧bJ h w' p ts:=by
 have E:=aa G;have Q:=aa q;have g:(t.text.toList !=s.toList)=false:=by rw[ak];simp
 have aG:(s.toList !=s.toList)=false:=by simp
 have am:=rO;have ax:=rP;have aB:=nX;clear G q;go_enter Tryz.func90,Tryz.ntmps90;go_wp2_with fail;refine(mU h _ E.out p t ts Q.out).mono ?_;rintro e w1 ⟨rfl,A⟩;have Y:=aa (E.out.below A);have ab:=aa (Q.out.below A);have ad:Hid (bB p h w h w1):=bB.below E.out A;clear A;go_wp2_with fail;refine(qg h _ Y.out p t ts ab.out).mono ?_;rintro e w2 ⟨rfl,O,M⟩;have aj:=aa (ad.out.call O);have ac:=aa M;clear O M;go_wp2_with fail;go_ret;exact⟨rfl,aj.out,ac.out⟩
theorem zj(h:Hp)(w:World)(G:ao h w)(p:Nat)(t:cU)(ts:List cU)(q:bJ h w p (t::ts))(k o:Int)(ak:t.kind=k)(am:k≠0):Calls ai 91 #[az (some ⟨p,0,none⟩),af ae k,af ae o] w fun e w'=>e= .returned (.tuple #[ah t.text,ah t.lead])∧bB p h w h w'∧bJ h w' p ts:=by
 have E:=aa G;have Q:=aa q;subst ak;have g:(t.kind==0)=false:=by simpa using am
 have aJ:(t.kind !=t.kind)=false:=by simp
 have ax:=rO;have aB:=rP;have aG:=nX;clear G q;go_enter Tryz.func91,Tryz.ntmps91;go_wp2_with fail;refine(mU h _ E.out p t ts Q.out).mono ?_;rintro e w1 ⟨rfl,A⟩;have Y:=aa (E.out.below A);have ab:=aa (Q.out.below A);have ad:Hid (bB p h w h w1):=bB.below E.out A;clear A;go_wp2_with fail;refine(qg h _ Y.out p t ts ab.out).mono ?_;rintro e w2 ⟨rfl,O,M⟩;have aj:=aa (ad.out.call O);have ac:=aa M;clear O M;go_wp2_with fail;go_quiet(fail);go_wp2_with fail;go_ret2;exact⟨rfl,(aj.out.alloc _).drewN _,(ac.out.alloc _).drewN _⟩
theorem bJ.add{h:Hp}{w:World}{p:Nat}{ts:List cU}(q:bJ h w p ts){b:Nat}(c:Array Value)(A:b≠p)(E:h b=none):bJ (h.add b c) w p ts:=
 q.U rfl (an _) (Hp.eG _ E) (by unfold Hp.add;rw[if_neg (fun e=>A e.symm)];exact q.no)
theorem Has.zk{w:World}{b:Nat}{a0 M O Y:Value}(x:Has w b #[a0,M,O,Y])(v0 A E G:Value)(o:Obj):
  ((((((w.setCell ⟨b,0,none⟩ v0).setCell ⟨b,1,none⟩ A).setCell ⟨b,2,none⟩ E).setCell ⟨b,3,none⟩ G).alloc o).cell? ⟨b,0,none⟩=some v0∧(((((w.setCell ⟨b,0,none⟩ v0).setCell ⟨b,1,none⟩ A).setCell ⟨b,2,none⟩ E).setCell ⟨b,3,none⟩ G).alloc o).cell? ⟨b,1,none⟩=some A∧
   (((((w.setCell ⟨b,0,none⟩ v0).setCell ⟨b,1,none⟩ A).setCell ⟨b,2,none⟩ E).setCell ⟨b,3,none⟩ G).alloc o).cell? ⟨b,2,none⟩=some E∧(((((w.setCell ⟨b,0,none⟩ v0).setCell ⟨b,1,none⟩ A).setCell ⟨b,2,none⟩ E).setCell ⟨b,3,none⟩ G).alloc o).cell? ⟨b,3,none⟩=some G):=by
 have y:=((((x.hU 0 (by simp) v0).hU 1 (by simp) A).hU 2 (by simp) E).hU 3 (by simp) G).alloc o;exact⟨y.cl 0,y.cl 1,y.cl 2,y.cl 3⟩
theorem zm{p b:Nat}{h h1:Hp}{w w2:World}{ts:List cU}(S:bB p h w h1 w2)(Q:bJ h1 w2 p ts)(A:w.heap.size≤b)(G:h1 b=none)(E:b≠p)(_hbl:b<w2.heap.size)(k:Int)(ac:aG k)(s lead:ByteArray)(T:TypeId):bB p h w (h1.add w2.heap.size #[ah lead]) (((((w2.setCell ⟨b,0,none⟩ (af ae k)).setCell ⟨b,1,none⟩ (ah s)).setCell ⟨b,2,none⟩ (ag (some ⟨w2.heap.size,0,none⟩) 1 1)).setCell ⟨b,3,none⟩ (ag none 0 0)).alloc (au #[ah lead] T))∧bJ (h1.add w2.heap.size #[ah lead]) (((((w2.setCell ⟨b,0,none⟩ (af ae k)).setCell ⟨b,1,none⟩ (ah s)).setCell ⟨b,2,none⟩ (ag (some ⟨w2.heap.size,0,none⟩) 1 1)).setCell ⟨b,3,none⟩ (ag none 0 0)).alloc (au #[ah lead] T)) p ts∧aP (h1.add w2.heap.size #[ah lead]) (aq #[af ae k,ah s,ag (some ⟨w2.heap.size,0,none⟩) 1 1,ag none 0 0]) (.node k s [lead] []):=by
 have M:h1 w2.heap.size=none:=bI S.I _ (an _);have hz:((((w2.setCell ⟨b,0,none⟩ (af ae k)).setCell ⟨b,1,none⟩ (ah s)).setCell ⟨b,2,none⟩ (ag (some ⟨w2.heap.size,0,none⟩) 1 1)).setCell ⟨b,3,none⟩ (ag none 0 0)).heap.size=w2.heap.size:=by simp[World.setCell]
 have Y:=(((S.set (q:=⟨b,0,none⟩) (.inl A) G (af ae k)).set (q:=⟨b,1,none⟩) (.inl A) G (ah s)).set (q:=⟨b,2,none⟩) (.inl A) G (ag (some ⟨w2.heap.size,0,none⟩) 1 1)).set (q:=⟨b,3,none⟩) (.inl A) G (ag none 0 0);have O:=(((Q.set (a:=⟨b,0,none⟩) E (af ae k)).set (a:=⟨b,1,none⟩) E (ah s)).set (a:=⟨b,2,none⟩) E (ag (some ⟨w2.heap.size,0,none⟩) 1 1)).set (a:=⟨b,3,none⟩) E (ag none 0 0);generalize(((w2.setCell ⟨b,0,none⟩ (af ae k)).setCell ⟨b,1,none⟩ (ah s)).setCell ⟨b,2,none⟩ (ag (some ⟨w2.heap.size,0,none⟩) 1 1)).setCell ⟨b,3,none⟩ (ag none 0 0)=w3 at*;rw[←hz]at M⊢;have ad:=O.lt;refine⟨(Y.alloc _).add Y.size M (by unfold bi;rw[heap_alloc_new]),(O.alloc _).add _ (by omega) M,?_⟩;refine⟨_,rfl,?_⟩;rw[bg];refine⟨_,_,_,_,[],rfl,ac,⟨_,_,rfl,by simp,rfl,.inr ⟨w3.heap.size,0,#[ah lead],rfl,by unfold Hp.add;rw[if_pos rfl],fun i ab=> ?_⟩⟩,Sl.nil _ _ _ _,by rw[eH]⟩;have:i=0:=by simp at ab;omega
 subst this;rfl
theorem Gu(h:Hp)(w:World)(O:ao h w)(p:Nat)(t:cU)(ts:List cU)(q:bJ h w p (t::ts))(aJ:t.text=⟨#[73,110,116]⟩):Calls ai 133 #[az (some ⟨p,0,none⟩)] w fun e w'=>∃v,e= .returned v∧∃h',bB p h w h' w'∧bJ h' w' p ts∧aP h' v (.node 5 ⟨#[]⟩ [t.lead] []):=by
 have E:=aa O;have Q:=aa q;have ab:w.heap.size≠p:=by have:=q.lt;omega
 have aN:=rO;have aO:=rP;have aQ:=nX;clear O q;go_enter Tryz.func133,Tryz.ntmps133;go_wp2_with fail;refine(mU h _ (E.out.alloc _) p t ts (Q.out.alloc _)).mono ?_;rintro e w1 ⟨rfl,G⟩;have ax:Hid (Has w1 w.heap.size #[af ae 0,ah ⟨#[]⟩,ag none 0 0,ag none 0 0]):=(Has.new _ _ _).below G;have ac:=aa ((E.out.alloc (au #[af ae 0,ah ⟨#[]⟩,ag none 0 0,ag none 0 0] 26)).below G);have ad:=aa ((Q.out.alloc (au #[af ae 0,ah ⟨#[]⟩,ag none 0 0,ag none 0 0] 26)).below G);have ak:Hid (bB p h w h w1):=((bB.refl E.out).alloc _).call (bB.below (E.out.alloc _) G);rw[aJ];clear G;go_wp2_with fail;refine(qg h _ ac.out p t ts ad.out).mono ?_;rintro e w2 ⟨rfl,M,Y⟩;have A:=aa (ax.out.gW M ab);have am:=aa (ak.out.call M);have aj:=aa Y;clear M Y;have aB:=A.out.cl 0;have c1:=A.out.cl 1;have c2:=A.out.cl 2;have c3:=A.out.cl 3;have aS:=A.out.fz 0;have aT:=A.out.fz 1;have aV:=A.out.fz 2;have aX:=A.out.fz 3;have aM:=A.out.lt;simp only[bw,bc,bQ]at aB c1 c2 c3;go_wp2_with fail;obtain⟨aL,k1,k2,k3⟩:=A.out.zk (af ae 5) (ah ⟨#[]⟩) (ag (some ⟨w2.heap.size,0,none⟩) 1 1) (ag none 0 0) (au #[ah t.lead] 9);refine aF (v:=aq #[af ae 5,ah ⟨#[]⟩,ag (some ⟨w2.heap.size,0,none⟩) 1 1,ag none 0 0]) (by simp[results,Tryz.results133,go_sem,aL,k1,k2,k3]) rfl ⟨_,rfl,_,zm am.out aj.out (an _) (bI E.out _ (an _)) ab aM 5 (by unfold aG;omega) ⟨#[]⟩ t.lead _⟩
theorem uO(h:Hp)(w:World)(Y:ao h w)(p:Nat)(t:cU)(ts:List cU)(q:bJ h w p (t::ts))(aL:t.kind=5)(aZ:(t.text.toList==[116,114,117,101])=false)(a1:(t.text.toList==[102,97,108,115,101])=false)(a2:(t.text.toList==[63])=false)(a3:(t.text.toList==[91])=false)(a4:(t.text.toList==[40])=false):Calls ai 180 #[az (some ⟨p,0,none⟩)] w fun e w'=>∃v,e= .returned v∧∃h',bB p h w h' w'∧bJ h' w' p ts∧aP h' v (.node 10 t.text [t.lead] []):=by
 have E:=aa Y;have Q:=aa q;have ac:w.heap.size≠p:=by have:=q.lt;omega
 have aO:=rO;have aQ:=rP;have aS:=nX;clear Y q;go_enter Tryz.func180,Tryz.ntmps180;go_wp2_with fail;refine(mU h _ (E.out.alloc _) p t ts (Q.out.alloc _)).mono ?_;rintro e w1 ⟨rfl,G⟩;have aB:Hid (Has w1 w.heap.size #[af ae 0,ah ⟨#[]⟩,ag none 0 0,ag none 0 0]):=(Has.new _ _ _).below G;have ad:=aa ((E.out.alloc (au #[af ae 0,ah ⟨#[]⟩,ag none 0 0,ag none 0 0] 26)).below G);have aj:=aa ((Q.out.alloc (au #[af ae 0,ah ⟨#[]⟩,ag none 0 0,ag none 0 0] 26)).below G);have am:Hid (bB p h w h w1):=((bB.refl E.out).alloc _).call (bB.below (E.out.alloc _) G);rw[aL];clear G;have M:=aa ((aB.out.alloc (au #[af ae 5,ah t.lead,ah t.text] 95)));go_wp2_with fail;go_quiet(fail);go_wp2_with fail;refine(qg h _ ((ad.out.alloc _).drewN _) p t ts ((aj.out.alloc _).drewN _)).mono ?_;rintro e w2 ⟨rfl,O,ab⟩;have A:Hid (Has w2 w.heap.size #[af ae 0,ah ⟨#[]⟩,ag none 0 0,ag none 0 0]):=Has.gW (w:=(w1.alloc (au #[af ae 5,ah t.lead,ah t.text] 95)).drewN _) ⟨M.out.lt,M.out.cl,M.out.fz⟩ O ac;have ax:=aa (((am.out.alloc _).drewN _).call O);have ak:=aa ab;clear O ab;have aJ:=A.out.cl 0;have c1:=A.out.cl 1;have c2:=A.out.cl 2;have c3:=A.out.cl 3;have aT:=A.out.fz 0;have aV:=A.out.fz 1;have aX:=A.out.fz 2;have aY:=A.out.fz 3;have aN:=A.out.lt;simp only[bw,bc,bQ]at aJ c1 c2 c3;go_wp2_with fail;obtain⟨aM,k1,k2,k3⟩:=A.out.zk (af ae 10) (ah t.text) (ag (some ⟨w2.heap.size,0,none⟩) 1 1) (ag none 0 0) (au #[ah t.lead] 9);refine aF (v:=aq #[af ae 10,ah t.text,ag (some ⟨w2.heap.size,0,none⟩) 1 1,ag none 0 0]) (by simp[results,Tryz.results180,go_sem,aM,k1,k2,k3]) rfl ⟨_,rfl,_,zm ax.out ak.out (an _) (bI E.out _ (an _)) ac aN 10 (by unfold aG;omega) t.text t.lead _⟩
mutual
def Tree.depth:Tree→Nat
 | .node _ _ _ ks=>hC ks+1
def hC:List Tree→Nat
 |[]=>0
 |t::ts=>max t.depth (hC ts)
end
theorem DF(ts:List Tree)(t:Tree):hC (ts++[t])=max (hC ts) t.depth:=by
 induction ts with
 |nil=>simp[hC]
 |cons a ts A=>simp only[hv,hC,A];omega
theorem DG(ts:List Tree)(j:Nat)(h:j<ts.length):hC (ts.take (j+1))=max (hC (ts.take j)) ts[j].depth:=by rw[←DF,List.take_succ_eq_append_getElem h]
theorem Tree.DH(t:Tree):t.depth=hC t.kids+1:=by cases t;rw[Tree.depth];rfl
theorem xl(ts:List Tree)(j:Nat):hC (ts.take j)≤hC ts:=by
 induction ts generalizing j with
 |nil=>simp
 |cons a ts A=>
  cases j with
  |zero=>simp[hC]
  |succ j=>simp only[List.take_succ_cons,hC];have:=A j;omega
theorem DI(n:Nat):∀(h:Hp) (w:World) (_:ao h w) (v:Value) (t:Tree) (_:aP h v t) (_:t.size≤n) (_:t.depth≤1000000000),Calls ai 45 #[v] w fun e w'=>e= .returned (af ae t.depth)∧Below w.heap.size w w':=by
 induction n with
 |zero=>intro h w ab v t E O;cases t;simp[Tree.size]at O
 |succ n aj=>
  intro h w ab v t E O aG;obtain⟨aN,aS,aL,ck,xs,rfl,a1,a3,a2,aJ,Y,aB⟩:=E.open;have hz:=Tree.size_eq t;have G:=Tree.DH t;have ak:=aa G;rw[hz]at O;rw[G]at aG;have am:=aa aj;clear aj E hz G;go_enter Tryz.func45,Tryz.ntmps45;go_wp2_with fail;go_loopw[3,5,9,10,11,12,13,14,15,16,17] (fun c _ i _ _ _ _ _ _ _ _ wr=>∃j:Nat,j≤t.kids.length∧i=af ae j∧c=af ae (hC (t.kids.take j))∧Below w.heap.size w wr) (fun _ _ i _ _ _ _ _ _ _ _ _=>t.kids.length-(intOf i).toNat);case atStart=>exact⟨0,aW _,rfl,by simp[hC],(Below.refl _ _).alloc (an _) _⟩
  case round=>
   obtain⟨j,hj,rfl,rfl,A⟩:=hrel;have aJ:=xl t.kids j;by_cases M:j<t.kids.length
   ·have ac:=ab.below A;obtain⟨b,a8,aO,aT,aM,aQ,rfl,-,aV,aX,aY,aZ,E⟩:=j9 Y aB ac j M;have ad:=aa (DG t.kids j M);have a5:=eY t.kids j M;have a4:=jK t.kids (j+1);have Y:=xl t.kids (j+1);rw[ad.out]at Y;go_wp2_with fail;refine(am.out h _ ?_ _ _ E (by omega) (by omega)).mono ?_;·exact ac.alloc _
    ·rintro e w1 ⟨rfl,ax⟩;go_wp2_with fail;go_roundw;case rel=>exact⟨j+1,by omega,by go_num,by rw[ad.out];simp;first|omega|(split<;>omega),(A.alloc A.size _).trans (ax.mono (by have:=A.size;simp;omega))⟩
     case measure=>simp[intOf];omega
   ·go_wp2_with fail;go_ret;have:t.kids.take j=t.kids:=List.take_of_length_le (by omega);exact⟨by rw[ak.out,this];simp;try omega,A⟩
open Go.RowKit Go.ChangeShapes Go.WideShapes
set_option maxRecDepth 100000
theorem EH:laidOutB ai=true:=by kernel_rfl
theorem EI:ownKnob ai.godebug=none:=by kernel_rfl
section
variable {H:Type} {enc:TypeId×Value→H} {W:World} {r:Reach} {base:Nat} {v:Value} {d:DataW H} {p:List MemPlace}
theorem EJ{t e:TypeId}(E:ai.underlying t=some (.slice e))(A:sJ ai W r base t v){a:Option Addr}{n c:Nat}(G:v.cells.toList=[ag a n c]):v=ag a n c:=by
 cases v with
 |agg cs=>unfold sJ at A;rw[E]at A;simp[Cell.okWide,Cell.ok,E]at A
 |tuple cs=>unfold sJ at A;rw[E]at A;simp[Cell.okWide,Cell.ok,E]at A
 |_=>simp_all[Value.cells]
end
open Go.RowKit Go.ChangeShapes Go.WideShapes
set_option maxRecDepth 100000
section
variable {H:Type} {enc:TypeId×Value→H} {w:World} {sp:Nat→Bool} {held:Bool}
theorem EK{α:Type}{t e:TypeId}{k ax:Nat}{cs:List Value}{x:DataW H×List MemPlace}(aT:ai.underlying t=some (.slice e))(aM:ai.cellsOf e=k)(ak:0<k)(R:α→List Value→Prop)(aB:∀n cs x,vU enc ai w 0 sp held n e cs=some x→∃y,R y cs∧cs.length=k)(h:vU enc ai w 0 sp held ax t cs=some x):∃(a:Option Addr) (n A:Nat),cs=[ag a n A]∧n≤A∧A≤9223372036854775807∧(n≤140737488355328→∃(l:List α) (xs:List Value),l.length=n∧Sl (bi w) (ag a n A) n k xs∧aJ R l xs):=by
 rcases DataW.trod_slice aT h with⟨rfl,rfl⟩|⟨a,aV,A,elems,rest,n,a2,rfl,rfl,a1,aO,aQ,aP,aj,_,_⟩;·exact⟨none,0,0,rfl,an _,by omega,fun _=>⟨[],[],rfl,Sl.nil _ _ _ _,rfl⟩⟩
 ·rw[aM]at aj;refine⟨some a,aV,A,rfl,aO,by unfold maxLen at aQ;omega,fun aS=> ?_⟩;have am:∀i (G:i<elems.length),∃c,w.cells? 0 (a.add (i*k)) k=some c∧vU enc ai w 0 sp held n e c=some elems[i]:=fun i G=>by have:=aj i (by omega);rw[aE G]at this;obtain⟨c,h1,h2⟩:=Option.bind_eq_some_iff.1 this;exact⟨c,h1,h2⟩
  have ac:∀i q,(a.add (i*k)).add q=a.add (i*k+q):=fun i q=>by unfold Addr.add;by_cases h1:i*k=0<;>by_cases h2:q=0<;>simp[h1,h2,bP]
  have ao:0<elems.length→a.spot=none:=fun E=>by obtain⟨c,h1,_⟩:=am 0 E;obtain⟨_,h2,O⟩:=Kj h1;have:=O 0 ak;rw[ac]at this;simp only[gn,dz]at this;rw[aE (by omega)]at this;exact(xW this).1
  have aG:0<elems.length→∀q,a.add q=⟨a.block,a.off+q,none⟩:=fun E q=>by
   have:=ao E;unfold Addr.add;by_cases M:q=0;·rw[if_pos M,M,dz,←this]
   ·rw[if_neg M]
  obtain⟨l,xs,h1,h2,O,ab,aZ⟩:=xX (w:=w) R (fun _=>0) k a.block a.off elems 0 (fun i G=>by obtain⟨c,c1,c2⟩:=am i G;obtain⟨_,c3,c4⟩:=Kj c1;obtain⟨y,aX,aY⟩:=aB n c _ c2;refine⟨y,c,aX,aY,fun q M=> ?_,aW _⟩;rw[←c4 q M,ac,aG (by omega),cO,bP])
  subst aP;refine⟨l,xs,h1,⟨some a,A,rfl,aS,by rw[O],?_⟩,h2⟩;rcases Nat.eq_zero_or_pos elems.length with E|E;·left;omega
  ·right;have aL:=ao E;have aN:0<elems.length*k:=Nat.mul_pos E ak;have ad:=ab 0 aN;rw[aE (by omega)]at ad;obtain⟨_,c,Y,_⟩:=xW ad;refine⟨a.block,a.off,c,by rw[←aL],Y,fun i G=> ?_⟩;rw[←ab i G,gn,dz,pH Y]
end
section
variable {H:Type} {enc:TypeId×Value→H} {W:World} {r:Reach} {base:Nat} {v:Value} {d:DataW H} {p:List MemPlace}
theorem EL(ak:sJ ai W r base 34 v)(h:DataW.Trod enc ai W 0 (fun _=>true) true 34 v d p):∃a n A,v=ag a n A∧n≤A∧A≤9223372036854775807∧(n≤140737488355328→∃L,L.length=n∧Ints (bi W) (ag a n A) L):=by
 obtain⟨f,ad⟩:=h;obtain⟨a,n,A,h1,h2,O,Y⟩:=EK sD (k:=1) (by kernel_rfl) (by decide) xY (fun n cs x h=>by obtain⟨z,e,i⟩:=EA Tryz.underlying3 h;exact⟨z,⟨e,i⟩,by rw[e];rfl⟩) ad
 rw[EJ sD ak h1];refine⟨a,n,A,rfl,h2,O,fun aj=> ?_⟩;obtain⟨l,xs,E,G,M⟩:=Y aj;obtain⟨ab,ac⟩:=xZ M;subst ab E;exact⟨l,rfl,G,ac⟩
end
end Go.Proofs.YtdplggpbgommnaaGreatDoor
