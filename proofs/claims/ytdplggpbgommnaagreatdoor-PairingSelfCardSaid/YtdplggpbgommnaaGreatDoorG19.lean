/- Trees that are made: of the right shape, with short texts. -/
import Derived.Test.YtdplggpbgommnaaGreatDoorG18
open Bool renaming and_eq_true→cy
open Go renaming bodyPost_ret→aF,results→aH
open Go.Addr.mk renaming injEq→cx
open Go.IntKind renaming i64→ae
open Go.Lib renaming hid→aa
open Go.Obj renaming cells→au
open Go.Proofs.Tryz renaming prog→ai,results119→jH
open Go.RowKit.Below renaming heap_setCell→cH
open Go.Value renaming agg→aq,int→af,pointer→az,slice→ag,string→ah
open Go.Value.agg renaming injEq→oG
open Go.Value.slice renaming injEq→bU
open Go.World renaming cell?_of_block→dc,frozen?_of_block→kG,setCell→ef
open Go.World.grownBy renaming refl→kC
open Int renaming tmod_lt_of_pos→we
open List renaming length_append→cI,length_cons→bF,length_nil→cL,mem_append→ev,mem_cons_of_mem→cW,mem_singleton→eR
open Nat renaming add_mul→gN,le_refl→an,lt_of_lt_of_le→bK,mul_le_mul_right→mq
open Option.some renaming injEq→aC,inj→aU
set_option maxHeartbeats 4000000
set_option maxRecDepth 100000
namespace Go.Proofs.YtdplggpbgommnaaGreatDoor
open Go.RowKit
mutual
def Tree.ia:Tree→Prop
 | .node _ s _ ks=>s.size≤1000∧ib ks
def ib:List Tree→Prop
 |[]=>True
 |t::ts=>t.ia∧ib ts
end
def dw(t:Tree):Prop:=ep t=true∧t.ia
def fu(k:Int)(s:ByteArray):Bool:=nf k s&&decide (s.size≤1000)
def r5(k:Int)(s:ByteArray):Bool:=decide (0≤b9 k 0)&&(jW k&&fu k s)
def ka(k:Int)(s:ByteArray):Bool:=decide (0≤b9 k 0)&&(fj k&&fu k s)
def mC(k:Int)(s:ByteArray):Bool:=fu k s&&decide (s.size=1)
def MT(b:Nat)(t:Tree):Prop:=t.size≤b∧dw t∧jW t.kind=true
def ME(b:Nat)(t:Tree):Prop:=t.size≤b∧dw t∧fj t.kind=true
def MU(b:Nat)(t:Tree):Prop:=t.size≤b∧dw t∧gI t.kind=true
def MD(t:Tree):Prop:=(t.size≤120∧(t.kind=2∨t.kind=3))∧dw t∧t.text.size=1
def hK(k:Int)(n:Nat):Nat→List Tree→Prop
 |_,[]=>True
 |i,t::ts=>(jb k n i t.kind=true∧dw t)∧hK k n (i+1) ts
theorem hK.spec{k:Int}{n:Nat}:∀{i:Nat} {ts:List Tree},hK k n i ts→fZ k n i ts=true∧ib ts
 |i,[],_=>by rw[fZ,ib];exact⟨rfl,trivial⟩
 |i,t::ts,h=>by obtain⟨⟨h1,h2,A⟩,E⟩:=h;obtain⟨G,M⟩:=E.spec;rw[fZ,ib,h1,h2,G];exact⟨rfl,A,M⟩
theorem hK.lP{k:Int}{n:Nat}:∀{i:Nat} {a b:List Tree},hK k n i a→hK k n (i+a.length) b→hK k n i (a++b)
 |i,[],b,_,h=>h
 |i,t::a,b,h1,h2=>⟨h1.1,hK.lP h1.2 (by rw[bF]at h2;rw[show i+1+a.length=i+(a.length+1) by omega];exact h2)⟩
theorem hK.all{k:Int}{n:Nat}:∀{j:Nat} {ts:List Tree},(∀t∈ts,(∀i,i<j+ts.length→jb k n i t.kind=true)∧dw t)→hK k n j ts
 |_,[],_=>trivial
 |j,t::ts,h=>by have A:=h t List.mem_cons_self;exact⟨⟨A.1 j (by simp),A.2⟩,hK.all fun u E=>⟨fun i G=>(h u (cW _ E)).1 i (by rw[bF];omega),(h u (cW _ E)).2⟩⟩
theorem Af{k:Int}{s:ByteArray}(h:fu k s=true):nf k s=true∧s.size≤1000:=by unfold fu at h;rw[cy,decide_eq_true_iff]at h;exact h
theorem je{k:Int}{s:ByteArray}{ts:List Tree}(M:decide (0≤b9 k ts.length)=true)(O:fu k s=true)(G:hK k ts.length 0 ts):dw (.node k s [] ts):=by
 obtain⟨h1,h2⟩:=G.spec;obtain⟨A,E⟩:=Af O;refine⟨?_,?_⟩;·rw[ep,M,A,h1];rfl
 ·rw[Tree.ia];exact⟨E,h2⟩
theorem jX{k:Int}{s:ByteArray}{b:Nat}(h:1≤b)(A:r5 k s=true):MT b (.node k s [] []):=by unfold r5 at A;simp only[cy]at A;exact⟨by simpa[Tree.size,ax]using h,je A.1 A.2.2 trivial,A.2.1⟩
theorem n9{k:Int}{s:ByteArray}{b:Nat}(h:1≤b)(A:ka k s=true):ME b (.node k s [] []):=by unfold ka at A;simp only[cy]at A;exact⟨by simpa[Tree.size,ax]using h,je A.1 A.2.2 trivial,A.2.1⟩
theorem Ag{s:ByteArray}(h:ka 12 s=true):fu 20 s=true∧fu 4 s=true:=by unfold ka at h;simp only[cy]at h;exact⟨h.2.2,h.2.2⟩
theorem HF{r:Int}{b:Nat}(h:1≤b)(A:0≤r)(h1:r<2):ME b (.node (13+r) ⟨#[]⟩ [] []):=by
 have:r=0∨r=1:=by omega
 rcases this with rfl|rfl;·exact n9 h (by kernel_rfl)
 ·exact n9 h (by kernel_rfl)
theorem Ah{b:Nat}{t:Tree}(h:MT b t):MT (b+1) (.node 8 ⟨#[]⟩ [] [t]):=
 ⟨by have:=h.1;simp only[Tree.size,ax];omega,je rfl (by kernel_rfl) ⟨⟨h.2.2,h.2.1⟩,trivial⟩,rfl⟩
theorem Ai{b:Nat}{t:Tree}(h:ME b t):MU (b+1) (.node 22 ⟨#[]⟩ [] [t]):=
 ⟨by have:=h.1;simp only[Tree.size,ax];omega,je rfl (by kernel_rfl) ⟨⟨h.2.2,h.2.1⟩,trivial⟩,rfl⟩
theorem MU.expr{b:Nat}{t:Tree}(h:MU b t):ME b t:=⟨h.1,h.2.1,by have:=h.2.2;unfold gI at this;rw[cy]at this;exact this.1⟩
theorem ME.le{b c:Nat}{t:Tree}(h:ME b t)(A:b≤c):ME c t:=⟨Nat.le_trans h.1 A,h.2⟩
theorem HG{b c:Nat}{t u v:Tree}(h1:ME b t)(h2:ME b u)(A:ME b v)(E:3*b+1≤c):ME c (.node 19 ⟨#[]⟩ [] [t,u,v]):=
 ⟨by have:=h1.1;have:=h2.1;have:=A.1;simp only[Tree.size,ax];omega,je rfl (by kernel_rfl) ⟨⟨h1.2.2,h1.2.1⟩,⟨h2.2.2,h2.2.1⟩,⟨A.2.2,A.2.1⟩,trivial⟩,rfl⟩
theorem HH{b c:Nat}{s:ByteArray}{t u:Tree}(A:ka 12 s=true)(h1:ME b t)(h2:ME b u)(E:2*b+1≤c):ME c (.node 20 s [] [t,u]):=
 ⟨by have:=h1.1;have:=h2.1;simp only[Tree.size,ax];omega,je rfl (Ag A).1 ⟨⟨h1.2.2,h1.2.1⟩,⟨h2.2.2,h2.2.1⟩,trivial⟩,rfl⟩
theorem Aj{b1 b2 c:Nat}{s:ByteArray}{t u:Tree}(A:fu 21 s=true)(h1:t.size≤b1∧dw t∧(gI t.kind=true∨t.kind=21))(h2:MU b2 u)(E:b1+b2+1≤c):ME c (.node 21 s [] [t,u]):=by
 refine⟨by have:=h1.1;have:=h2.1;simp only[Tree.size,ax];omega,je rfl A ⟨⟨?_,h1.2.1⟩,⟨?_,h2.2.1⟩,trivial⟩,rfl⟩
 ·show(gI t.kind||(decide (0=0)&&decide (t.kind=21)))=true;rcases h1.2.2 with h|h;·rw[h];rfl
  ·rw[h];rfl
 ·show(gI u.kind||(decide (0+1=0)&&decide (u.kind=21)))=true;rw[h2.2.2];rfl
theorem Ak{b1 b2 c:Nat}{s:ByteArray}{t u:Tree}(E:fu 21 s=true)(h1:MU b1 t)(h2:MU b2 u)(A:b1+b2+1≤c):ME c (.node 21 s [] [t,u]):=Aj E ⟨h1.1,h1.2.1,.inl h1.2.2⟩ h2 A
theorem HI{b1 b2 b3 c:Nat}{s r:ByteArray}{t u v:Tree}(G:fu 21 s=true)(E:fu 21 r=true)(h1:MU b1 t)(h2:MU b2 u)(A:MU b3 v)(M:b1+b2+b3+2≤c):ME c (.node 21 s [] [.node 21 r [] [t,u],v]):=by have h:=Ak E h1 h2 (an _);exact Aj G ⟨h.1,h.2.1,.inr rfl⟩ A (by omega)
theorem r6(a b:List Tree):ax (a++b)=ax a+ax b:=by
 induction a with
 |nil=>simp[ax]
 |cons t a A=>rw[List.cons_append,gR,gR,A];omega
def qM(b:Nat)(ts:List Tree):Prop:=ax ts≤ts.length*(b+1)∧∀t∈ts,t.kind=17∧dw t
def qN(b:Nat)(ts:List Tree):Prop:=ax ts≤ts.length*(b+1)∧∀t∈ts,fj t.kind=true∧dw t
def qO(ts:List Tree):Prop:=ax ts≤ts.length*3∧∀t∈ts,t.kind=4∧dw t
theorem Cz{ts:List Tree}{t:Tree}{b:Nat}(h:qM b ts)(E:ME b t):qM b (ts++[.node 17 ⟨#[]⟩ [] [t]]):=by
 refine⟨?_,fun u A=> ?_⟩;·have:=h.1;have:=E.1;rw[r6,cI,gN];simp only[ax,Tree.size,bF,cL];omega
 ·rcases ev.1 A with A|A;·exact h.2 u A
  ·obtain rfl:=eR.1 A;exact⟨rfl,je rfl (by kernel_rfl) ⟨⟨E.2.2,E.2.1⟩,trivial⟩⟩
theorem CC{ts:List Tree}{t:Tree}{b:Nat}(h:qN b ts)(E:ME b t):qN b (ts++[t]):=by
 refine⟨?_,fun u A=> ?_⟩;·have:=h.1;have:=E.1;rw[r6,cI,gN];simp only[ax,bF,cL];omega
 ·rcases ev.1 A with A|A;·exact h.2 u A
  ·obtain rfl:=eR.1 A;exact⟨E.2.2,E.2.1⟩
theorem CL{ts:List Tree}{t:Tree}{s:ByteArray}(h:qO ts)(E:MT (1+1) t)(G:ka 12 s=true):qO (ts++[.node 4 s [] [t]]):=by
 refine⟨?_,fun u A=> ?_⟩;·have:=h.1;have:=E.1;rw[r6,cI,gN];simp only[ax,Tree.size,bF,cL];omega
 ·rcases ev.1 A with A|A;·exact h.2 u A
  ·obtain rfl:=eR.1 A;exact⟨rfl,je rfl (Ag G).2 ⟨⟨E.2.2,E.2.1⟩,trivial⟩⟩
theorem CA{ts:List Tree}{s:ByteArray}{b c:Nat}(h:qM b ts)(G:fu 16 s=true)(E:ts.length≤3)(M:3*b+4≤c):ME c (.node 16 s [] ts):=by
 refine⟨?_,je (decide_eq_true ?_) G (hK.all fun t A=>⟨fun i _=> ?_,(h.2 t A).2⟩),rfl⟩;·have:=h.1;have:ts.length*(b+1)≤3*(b+1):=mq _ E;simp only[Tree.size];omega
 ·show(0:Int)≤if ts.length=0 then 3 else((ts.length:Nat):Int)+2;split<;>omega
 ·show decide (t.kind=17)=true;rw[(h.2 t A).1];rfl
theorem CD{ts:List Tree}{b c:Nat}(h:qN b ts)(G:1≤ts.length)(E:ts.length≤3)(M:3*b+4≤c):ME c (.node 18 ⟨#[]⟩ [] ts):=by
 refine⟨?_,je (decide_eq_true ?_) (by kernel_rfl) (hK.all fun t A=>⟨fun i _=>(h.2 t A).1,(h.2 t A).2⟩),rfl⟩;·have:=h.1;have:ts.length*(b+1)≤3*(b+1):=mq _ E;simp only[Tree.size];omega
 ·show(0:Int)≤if ts.length=0 then-1 else((ts.length:Nat):Int)+1;rw[if_neg (by omega)];omega
theorem CJ{s:ByteArray}{t:Tree}(A:mC 3 s=true)(h:MT (2+1) t):MD (.node 3 s [] [t]):=by unfold mC at A;rw[cy,decide_eq_true_iff]at A;exact⟨⟨by have:=h.1;simp only[Tree.size,ax];omega,.inr rfl⟩,je rfl A.1 ⟨⟨h.2.2,h.2.1⟩,trivial⟩,A.2⟩
theorem CM{s:ByteArray}{ts:List Tree}{t u:Tree}(A:mC 2 s=true)(E:qO ts)(Y:ts.length≤3)(G:MT (1+1) t)(M:ME 105 u):MD (.node 2 s [] (ts++[t,u])):=by
 unfold mC at A;rw[cy,decide_eq_true_iff]at A;have e:(ts++[t,u]).length=ts.length+2:=by simp
 refine⟨⟨?_,.inl rfl⟩,je (decide_eq_true ?_) A.1 ?_,A.2⟩;·have:=E.1;have:=G.1;have:=M.1;have:ts.length*3≤3*3:=mq _ Y;simp only[Tree.size];rw[r6];simp only[ax];omega
 ·rw[e];show(0:Int)≤if ts.length+2<2 then-1 else if ts.length+2=2 then 6 else((ts.length+2:Nat):Int)+3;rw[if_neg (by omega)];split<;>omega
 ·rw[e];refine hK.lP (hK.all fun v O=>⟨fun i ab=> ?_,(E.2 v O).2⟩) ⟨⟨?_,G.2.1⟩,⟨?_,M.2.1⟩,trivial⟩;·show(if i+1=ts.length+2 then fj v.kind else if i+2=ts.length+2 then jW v.kind else decide (v.kind=4))=true;rw[if_neg (by omega),if_neg (by omega),(E.2 v O).1];rfl
  ·show(if 0+ts.length+1=ts.length+2 then fj t.kind else if 0+ts.length+2=ts.length+2 then jW t.kind else decide (t.kind=4))=true;rw[if_neg (by omega),if_pos (by omega)];exact G.2.2
  ·show(if 0+ts.length+1+1=ts.length+2 then fj u.kind else if 0+ts.length+1+2=ts.length+2 then jW u.kind else decide (u.kind=4))=true;rw[if_pos (by omega)];exact M.2.2
def r7(p:ByteArray→Bool):List Value→Bool
 |[]=>true
 | ah s::l=>p s&&r7 p l
 |_=>false
theorem ik:∀(l:List Value) (p:ByteArray→Bool),r7 p l=true→∀i,i<l.length→∃s,l.toArray[i]? =some (ah s)∧p s=true
 |[],_,_,i,A=>by simp at A
 | ah s::l,p,h,0,_=>⟨s,by simp,by rw[r7,cy]at h;exact h.1⟩
 | ah s::l,p,h,i+1,A=>by rw[r7,cy]at h;obtain⟨u,G,E⟩:=ik l p h.2 i (by simpa using A);exact⟨u,by simpa using G,E⟩
def oc(n m:Int):Int:=if n.tmod m<0 then n.tmod m+m else n.tmod m
theorem HJ(n m:Int)(h:0<m):0≤oc n m∧oc n m<m:=by
 have h1:=we n h;have h2: -m<n.tmod m:=by have:=we (-n) h;rw[Int.neg_tmod]at this;omega
 unfold oc;split<;>omega
theorem HK(w:World)(n m:Int)(_hn:aG n)(h:0<m)(E:m≤4611686018427387904):Calls ai 15 #[af ae n,af ae m] w fun e w'=>e= .returned (af ae (oc n m))∧w=w':=by
 have h1:=we n h;have h2: -m<n.tmod m:=by have:=we (-n) h;rw[Int.neg_tmod]at this;omega
 have G:(m==0)=false:=by simp;omega
 have O:m≠0:=by omega
 have M:(m== -1)=false:=by simp;omega
 unfold aG at _hn;unfold oc;by_cases A:n.tmod m<0;·rw[if_pos A];go_enter Tryz.func15,Tryz.ntmps15;go_wp2_with fail;go_ret;exact⟨rfl,rfl⟩
 ·rw[if_neg A];go_enter Tryz.func15,Tryz.ntmps15;go_wp2_with fail;go_ret;exact⟨rfl,rfl⟩
theorem Al(w:World)(a:Option Addr)(n c:Nat)(_hn:n≤9223372036854775807):Calls ai 13 #[ag a n c] w fun e w'=>e= .returned (.bool (decide ((n:Int)≤120)))∧w=w':=by go_enter Tryz.func13,Tryz.ntmps13;go_wp2_with fail;go_ret;exact⟨rfl,rfl⟩
theorem HL{P:Program}{f:FuncId}{args:Array Value}{w:World}{n:Nat}{v:Value}(h:Calls P f args (w.drewN n) fun e w'=>e= .returned v∧w.drewN n=w'):Calls P f args (w.drewN n) fun e G=>e= .returned v∧∃m,G=w.drewN m:=
 h.mono fun _ _ ⟨A,E⟩=>⟨A,n,E.symm⟩
structure cA(h:Hp)(w:World)(g:Nat)(L:List Int)(n:Nat):Prop where
 free:h g=none
 lt:g<w.heap.size
 le:n≤L.length
 cells:∃a cap,w.cell? ⟨g,0,none⟩=some (ag a L.length cap)∧Ints h (ag a L.length cap) L
 u3:w.cell? ⟨g,1,none⟩=some (af ae n)
 fz:w.frozen? ⟨g,1,none⟩=false
theorem cA.U{h h':Hp}{w w':World}{g:Nat}{L:List Int}{n:Nat}(d:cA h w g L n)(A:w'.heap[g]? =w.heap[g]?)(Y:w.heap.size≤w'.heap.size)(O:h.le h')(M:h' g=none):cA h' w' g L n:=by obtain⟨a,G,h1,h2⟩:=d.cells;have E:∀i,w'.cell? ⟨g,i,none⟩=w.cell? ⟨g,i,none⟩:=fun i=>dc (a:=⟨g,i,none⟩) A;exact⟨M,bK d.lt Y,d.le,⟨a,G,by rw[E];exact h1,h2.mono O⟩,by rw[E];exact d.u3,by rw[kG (a:=⟨g,1,none⟩) A];exact d.fz⟩
theorem cA.alloc{h:Hp}{w:World}{g:Nat}{L:List Int}{n:Nat}(d:cA h w g L n)(o:Obj):cA h (w.alloc o) g L n:=
 d.U (Below.heap_alloc _ _ _ d.lt) (by simp) (Hp.le_refl _) d.free
theorem cA.drew{h:Hp}{w:World}{g:Nat}{L:List Int}{n:Nat}(d:cA h w g L n):cA h w.drew g L n:=d.U rfl (an _) (Hp.le_refl _) d.free
theorem cA.setCell{h:Hp}{w:World}{g:Nat}{L:List Int}{n:Nat}(d:cA h w g L n){p:Addr}(A:p.block≠g)(v:Value):cA h (w.setCell p v) g L n:=
 d.U (cH _ _ _ _ (fun e=>A e.symm)) (by simp[ef]) (Hp.le_refl _) d.free
structure aL(g:Nat)(L:List Int)(h:Hp)(w:World)(h':Hp)(w':World):Prop where
 gr:w.grownBy w' (some g)
 I:ao h' w'
 le:h.le h'
 aI:∀b,b<w.heap.size→h' b=h b
 lt:g<w.heap.size
 bj:∃n,cA h' w' g L n
section
variable {g:Nat} {L:List Int} {h h1 h2:Hp} {w w1 w2:World} {n:Nat}
theorem aL.refl(A:ao h w)(d:cA h w g L n):aL g L h w h w:=⟨kC _ _,A,Hp.le_refl _,fun _ _=>rfl,d.lt,n,d⟩
theorem aL.call(s:aL g L h w h1 w1)(t:aL g L h1 w1 h2 w2):aL g L h w h2 w2:=
 ⟨kc s.gr t.gr (fun _k E=> .inl E),t.I,Hp.le_trans s.le t.le,fun b A=>(t.aI b (bK A s.gr.size)).trans (s.aI b A),s.lt,t.bj⟩
theorem aL.alloc(s:aL g L h w h1 w1)(o:Obj):aL g L h w h1 (w1.alloc o):=by obtain⟨n,d⟩:=s.bj;exact⟨mD s.gr o,s.I.alloc o,s.le,s.aI,s.lt,n,d.alloc o⟩
theorem aL.drew(s:aL g L h w h1 w1):aL g L h w h1 w1.drew:=by obtain⟨n,d⟩:=s.bj;exact⟨⟨s.gr.os,s.gr.tape,s.gr.output,s.gr.size,s.gr.block⟩,s.I,s.le,s.aI,s.lt,n,d.drew⟩
theorem aL.setCell(s:aL g L h w h1 w1){p:Addr}(M:w.heap.size≤p.block)(G:h1 p.block=none)(v:Value):aL g L h w h1 (w1.setCell p v):=by
 obtain⟨n,d⟩:=s.bj;have E:p.block≠g:=by have:=s.lt;omega
 exact⟨pJ s.gr (.inr M) v,s.I.U fun b c A=>cH _ _ _ _ (fun e=>by subst e;rw[G]at A;cases A),s.le,s.aI,s.lt,n,d.setCell E v⟩
theorem aL.add(s:aL g L h w h1 w1){b:Nat}{c:Array Value}(O:w.heap.size≤b)(G:h1 b=none)(M:bi w1 b=some c):aL g L h w (h1.add b c) w1:=by
 obtain⟨n,d⟩:=s.bj;have Y:=s.lt;have E:∀k,k≠b→(h1.add b c) k=h1 k:=fun k A=>by unfold Hp.add;rw[if_neg A]
 exact⟨s.gr,s.I.add M,Hp.le_trans s.le (Hp.eG _ G),fun k A=>by rw[E k (by omega)];exact s.aI k A,s.lt,n,d.U rfl (an _) (Hp.eG _ G) (by rw[E g (by omega)];exact d.free)⟩
theorem Has.dst{b:Nat}{c:Array Value}(x:Has w b c)(s:aL g L h w h1 w1)(A:b≠g):Has w1 b c:=by have e:=s.gr.block b x.lt (fun e=>A (aU e));exact⟨bK x.lt s.gr.size,fun q=>(dc (a:=⟨b,q,none⟩) e).trans (x.cl q),fun q=>(kG (a:=⟨b,q,none⟩) e).trans (x.fz q)⟩
end
theorem aL.drewN{g:Nat}{L:List Int}{h h1:Hp}{w w1:World}(s:aL g L h w h1 w1)(m:Nat):aL g L h w h1 (w1.drewN m):=by obtain⟨n,d⟩:=s.bj;exact⟨⟨s.gr.os,s.gr.tape,s.gr.output,s.gr.size,s.gr.block⟩,s.I,s.le,s.aI,s.lt,n,d.U rfl (an _) (Hp.le_refl _) d.free⟩
theorem aL.step{g:Nat}{L:List Int}{h:Hp}{w:World}{n:Nat}(M:ao h w)(d:cA h w g L n)(O:n<L.length)(z:Int)(hz:z=(n:Int)+1):aL g L h w h (w.setCell ⟨g,1,none⟩ (af ae z)):=by
 subst hz;obtain⟨a,E,h1,h2⟩:=d.cells;refine⟨pJ (kC _ _) (.inl rfl) _,M.U fun b c A=>cH _ _ _ _ (fun e=>by have G:b=g:=e;rw[G,d.free]at A;cases A),Hp.le_refl _,fun _ _=>rfl,d.lt,n+1,d.free,by simpa[ef]using d.lt,O,⟨a,E,?_,h2⟩,?_,?_⟩;·rw[World.cell?_setCell_other _ _ _ _ (by simp)];exact h1
 ·exact World.cell?_setCell_same _ _ _ d.u3
 ·have:=d.fz;simp[this]
def a8(L:List Int)(n:Nat)(m:Int):Int:=if n<L.length then oc (L.getD n 0) m else 0
theorem jo(L:List Int)(n:Nat)(m:Int)(h:0<m):0≤a8 L n m∧a8 L n m<m:=by
 unfold a8;split;·exact HJ _ _ h
 ·omega
theorem dW(h:Hp)(w:World)(am:ao h w)(g:Nat)(L:List Int)(n:Nat)(d:cA h w g L n)(m:Int)(aG:0<m)(a2:m≤1000):Calls ai 40 #[az (some ⟨g,0,none⟩),af ae m] w fun e w'=>e= .returned (af ae (a8 L n m))∧aL g L h w h w':=by
 have a1:=d.lt;have aZ:=d.le;have D:=aa d;obtain⟨a,aO,aN,M⟩:=d.cells;have c1:=d.u3;have aS:=d.fz;have IN:=aa M;have E:=aa am;have aT:=M.1.len.1;clear d M am;by_cases A:n<L.length
 ·obtain⟨aM,aQ,O,-,Y⟩:=Ints.open IN.out;simp only[bU,true_and]at O;obtain⟨rfl,rfl⟩:=O;obtain⟨b,a3,rfl,aV,aj⟩:=Y w E.out (by omega);have aY:=aj n A;have ax:=IN.out.2 L[n] (by simp)
  have aX:b≠g:=fun e=>by
   obtain⟨s,_⟩:=IN.out;obtain⟨a',aP,ak,_,_,ab⟩:=s;simp only[bU,true_and]at ak;obtain⟨rfl,rfl⟩:=ak;rcases ab with ab|⟨b',a4,c,ac,ad,_⟩;·omega
   ·simp only[aC,cx,and_true]at ac;rw[←ac.1,e,D.out.free]at ad;cases ad
  have G:Hid (a8 L n m=oc L[n] m):=by unfold Hid a8;rw[if_pos A];simp[List.getD,A]
  rw[G.out];have aB:=aa ax;generalize L[n]=z at*;clear aj Y ax;have a9:¬(L.length:Int)≤(n:Int):=by omega
  have ba:decide ((L.length:Int)≤(n:Int))=false:=by simpa using A
  have bd:decide (L.length≤n)=false:=by simpa using A
  have bg:(0:Int)≤(n:Int):=by omega
  have bm:(n:Int)<(L.length:Int):=by omega
  go_enter Tryz.func40,Tryz.ntmps40;go_wp2_with fail;go_quiet(fail);go_wp2_with fail;have a5:ae.wrap (n:Int)=n:=bA (by omega);have aJ:=aa (show m≤4611686018427387904 by omega);go_quiet((go_at_call 15;exact HL (HK _ z m aB.out aG aJ.out)));go_wp2_with fail;go_ret;exact⟨rfl,(((aL.refl E.out D.out).drewN _).call (aL.step (E.out.drewN _) (D.out.U rfl (an _) (Hp.le_refl _) D.out.free) A _ rfl)).drewN _⟩
 ·have G:Hid (a8 L n m=0):=by unfold Hid a8;rw[if_neg A]
  rw[G.out];obtain rfl:n=L.length:=by omega
  go_enter Tryz.func40,Tryz.ntmps40;go_wp2_with fail;go_quiet(fail);go_wp2_with fail;go_ret;exact⟨rfl,(aL.refl E.out D.out).drewN _⟩
theorem jn(h:Hp)(w:World)(O:ao h w)(g:Nat)(L:List Int)(n:Nat)(d:cA h w g L n)(b:Nat)(k c:Nat)(cs:Array Value){P:ByteArray→Prop}(M:Has w b cs)(ak:b≠g)(aB:0<k)(aG:k≤1000)(A:∀i,i<k→∃s,cs[i]? =some (ah s)∧P s):Calls ai 118 #[az (some ⟨g,0,none⟩),ag (some ⟨b,0,none⟩) k c] w fun e w'=>∃s,e= .returned (ah s)∧P s∧aL g L h w h w':=by
 have D:=aa d;have ac:=aa O;have ab:=aa M;have aj:=aa A;clear d O M A;go_enter Tryz.func118,Tryz.ntmps118;go_wp2_with fail;refine(dW h _ ac.out g L n D.out (k:Int) (by omega) (by omega)).mono ?_;rintro e w1 ⟨rfl,E⟩;have am:=jo L n (k:Int) (by omega);generalize a8 L n (k:Int)=r at*;obtain⟨j,rfl⟩:∃j:Nat,r=(j:Int):=⟨r.toNat,by omega⟩
 obtain⟨s,A,Y⟩:=aj.out j (by omega);have ad:=aa Y;clear Y;have G:=ab.out.dst E ak;have ax:w1.cell? ⟨b,j,none⟩=some (ah s):=(G.cl j).trans A;have S:=aa E;clear E G A;have aJ:(0:Int)≤(j:Int):=by omega
 have aM:(j:Int)<(k:Int):=by omega
 go_wp2_with fail;go_ret;exact⟨s,rfl,ad.out,S.out⟩
section
variable {g:Nat} {L:List Int} {h h1 h2:Hp} {w w1 w2:World} {n:Nat}
theorem aL.aM(s:aL g L h w h1 w1){b:Nat}(A:w.heap.size≤b)(E:h1 b=none)(v0 G M O:Value):aL g L h w h1 ((((w1.setCell ⟨b,0,none⟩ v0).setCell ⟨b,1,none⟩ G).setCell ⟨b,2,none⟩ M).setCell ⟨b,3,none⟩ O):=
 (((s.setCell (p:=⟨b,0,none⟩) A E v0).setCell (p:=⟨b,1,none⟩) A E G).setCell (p:=⟨b,2,none⟩) A E M).setCell (p:=⟨b,3,none⟩) A E O
theorem aL.lay(s:aL g L h w h1 w1)(cs:List Value)(T:TypeId)(b:Nat)(A:b=w1.heap.size):aL g L h w (h1.add b cs.toArray) (w1.alloc (.cells cs.toArray T)):=by subst A;refine(s.alloc _).add s.gr.size (bI s.I _ (an _)) ?_;unfold bi;rw[heap_alloc_new]
theorem ao.iI(A:ao h w):h w.heap.size=none:=bI A _ (an _)
end
def fQ(g:Nat)(L:List Int)(h:Hp)(w:World)(P:Tree→Prop)(e:Ending)(w':World):Prop:=∃v,e= .returned v∧∃h' t,aL g L h w h' w'∧aP h' v t∧P t
theorem gJ(h:Hp)(k:Int)(A:aG k)(s:ByteArray):aP h (aq #[af ae k,ah s,ag none 0 0,ag none 0 0]) (.node k s [] []):=by refine⟨[af ae k,ah s,ag none 0 0,ag none 0 0],rfl,?_⟩;rw[bg];exact⟨none,0,none,0,[],rfl,A,Sl.nil _ _ _ _,Sl.nil _ _ _ _,by rw[eH]⟩
theorem jL{h:Hp}{b:Nat}{cs:List Value}{ts:List Tree}(E:h b=some cs.toArray)(A:aJ (bg h) ts cs)(m:Nat)(M:m=ts.length)(Y:ts.length≤1000)(k:Int)(G:aG k)(s:ByteArray):aP h (aq #[af ae k,ah s,ag none 0 0,ag (some ⟨b,0,none⟩) m m]) (.node k s [] ts):=by subst M;refine⟨[af ae k,ah s,ag none 0 0,ag (some ⟨b,0,none⟩) ts.length ts.length],rfl,?_⟩;rw[bg];refine⟨none,0,some ⟨b,0,none⟩,ts.length,cs,rfl,G,Sl.nil _ _ _ _,⟨_,_,rfl,by omega,A.length 4 bg.len,.inr ⟨b,0,cs.toArray,rfl,E,fun i O=>by simp⟩⟩,eH.iff.2 A⟩
theorem dq{h:Hp}{a b c d:Value}{t:Tree}(s:aP h (aq #[a,b,c,d]) t):bg h t [a,b,c,d]:=by
 obtain⟨cs,e,i⟩:=s;have:cs=[a,b,c,d]:=by simp only[oG]at e;have:=congrArg Array.toList e;simpa using this.symm
 rw[this]at i;exact i
theorem jM(h:Hp)(b:Nat)(c:Array Value):(h.add b c) b=some c:=by unfold Hp.add;rw[if_pos rfl]
theorem HM{h:Hp}{b k:Nat}{c:Array Value}(A:k≠b):(h.add b c) k=h k:=by unfold Hp.add;rw[if_neg A]
structure Bx(h:Hp)(w:World)(b:Nat)(c:Array Value):Prop where
 has:Has w b c
 no:h b=none
section
variable {g:Nat} {L:List Int} {h h1:Hp} {w w1:World} {b:Nat} {c:Array Value}
theorem Bx.call(x:Bx h w b c)(s:aL g L h w h1 w1)(A:b≠g):Bx h1 w1 b c:=⟨x.has.dst s A,(s.aI b x.has.lt).trans x.no⟩
theorem Bx.alloc(x:Bx h w b c)(o:Obj):Bx h (w.alloc o) b c:=⟨x.has.alloc o,x.no⟩
theorem Bx.add(x:Bx h w b c){b':Nat}(c':Array Value)(A:b≠b'):Bx (h.add b' c') w b c:=⟨x.has,by rw[HM A];exact x.no⟩
theorem Bx.new(A:ao h w)(c:Array Value)(T:TypeId):Bx h (w.alloc (.cells c T)) w.heap.size c:=⟨Has.new w c T,A.iI⟩
end
theorem Bx.four{h:Hp}{w:World}{b:Nat}{v0 A E G:Value}(x:Bx h w b #[v0,A,E,G]):(w.cell? ⟨b,0,none⟩=some v0∧w.cell? ⟨b,1,none⟩=some A∧w.cell? ⟨b,2,none⟩=some E∧w.cell? ⟨b,3,none⟩=some G)∧w.frozen? ⟨b,0,none⟩=false∧w.frozen? ⟨b,1,none⟩=false∧w.frozen? ⟨b,2,none⟩=false∧w.frozen? ⟨b,3,none⟩=false:=
 ⟨⟨x.has.cl 0,x.has.cl 1,x.has.cl 2,x.has.cl 3⟩,x.has.fz 0,x.has.fz 1,x.has.fz 2,x.has.fz 3⟩
theorem s7(m:Nat):∀(h:Hp) (w:World) (_:ao h w) (g:Nat) (L:List Int) (n:Nat) (_:cA h w g L n) (_:m≤100),Calls ai 119 #[az (some ⟨g,0,none⟩),af ae m] w (fQ g L h w (MT (m+1))):=by
 induction m with
 |zero=>
  intro h w aj g L n d bA;have aP:=aa aj;have D:=aa d;have bz:=d.lt;clear aj d;go_enter Tryz.func119,Tryz.ntmps119;go_wp2_with fail;have B0:=aa (Bx.new aP.out #[af ae 0,ah ⟨#[]⟩,ag none 0 0,ag none 0 0] 26);have aQ:=aa ((aL.refl aP.out D.out).alloc (au #[af ae 0,ah ⟨#[]⟩,ag none 0 0,ag none 0 0] 26));refine(dW h _ aQ.out.I g L n (D.out.alloc _) 7 (by omega) (by omega)).mono ?_;rintro e w1 ⟨rfl,G⟩;have E:=aa (B0.out.call G (by omega));have A:=aa (aQ.out.call G);have hz:w.heap.size<w1.heap.size:=E.out.has.lt;have⟨⟨ac,k1,k2,k3⟩,bH,bI,bJ,bL⟩:=E.out.four;have bm:=jo L n 7 (by omega);generalize a8 L n 7=r at*;have a3:r=0∨r=1∨r=2∨r=3∨r=4∨r=5∨r=6:=by omega
  rcases a3 with rfl|rfl|rfl|rfl|rfl|rfl|rfl;·clear G;go_wp2_with fail;refine aF (v:=aq #[af ae 5,ah ⟨#[]⟩,ag none 0 0,ag none 0 0]) (by simp[aH,jH,go_sem,ac,k1,k2,k3]) rfl ?_;exact⟨_,rfl,h,.node 5 ⟨#[]⟩ [] [],A.out.aM (an _) E.out.no _ _ _ _,gJ _ _ (by unfold aG;omega) _,jX (by omega) (by kernel_rfl)⟩
  ·clear G;go_wp2_with fail;refine aF (v:=aq #[af ae 5,ah ⟨#[]⟩,ag none 0 0,ag none 0 0]) (by simp[aH,jH,go_sem,ac,k1,k2,k3]) rfl ?_;exact⟨_,rfl,h,.node 5 ⟨#[]⟩ [] [],A.out.aM (an _) E.out.no _ _ _ _,gJ _ _ (by unfold aG;omega) _,jX (by omega) (by kernel_rfl)⟩
  ·clear G;go_wp2_with fail;refine aF (v:=aq #[af ae 7,ah ⟨#[]⟩,ag none 0 0,ag none 0 0]) (by simp[aH,jH,go_sem,ac,k1,k2,k3]) rfl ?_;exact⟨_,rfl,h,.node 7 ⟨#[]⟩ [] [],A.out.aM (an _) E.out.no _ _ _ _,gJ _ _ (by unfold aG;omega) _,jX (by omega) (by kernel_rfl)⟩
  ·clear G;go_wp2_with fail;refine aF (v:=aq #[af ae 6,ah ⟨#[]⟩,ag none 0 0,ag none 0 0]) (by simp[aH,jH,go_sem,ac,k1,k2,k3]) rfl ?_;exact⟨_,rfl,h,.node 6 ⟨#[]⟩ [] [],A.out.aM (an _) E.out.no _ _ _ _,gJ _ _ (by unfold aG;omega) _,jX (by omega) (by kernel_rfl)⟩
  ·obtain⟨aO,Y⟩:=A.out.bj;have Y:=aa Y;clear G;go_wp2_with fail;refine(jn h _ (A.out.I.alloc _) g L aO (Y.out.alloc _) w1.heap.size 4 4 #[ah ⟨#[84]⟩,ah ⟨#[85]⟩,ah ⟨#[65,46,84]⟩,ah ⟨#[66,46,85]⟩] (Has.new w1 _ _) (by omega) (by omega) (by omega) (fun i aj=>ik [ah ⟨#[84]⟩,ah ⟨#[85]⟩,ah ⟨#[65,46,84]⟩,ah ⟨#[66,46,85]⟩] (r5 9) (by kernel_rfl) i aj)).mono ?_;rintro e w2 ⟨s,rfl,ak,ab⟩;have ak:=aa ak;have O:=aa ((E.out.alloc _).call ab (by omega));have ad:=aa ((A.out.alloc _).call ab);have aX:w.heap.size<w2.heap.size:=O.out.has.lt;have⟨⟨ax,aB,aM,aN⟩,a4,a5,a9,ba⟩:=O.out.four;clear ab;go_wp2_with fail;refine aF (v:=aq #[af ae 9,ah s,ag none 0 0,ag none 0 0]) (by simp[aH,jH,go_sem,ax,aB,aM,aN]) rfl ?_;exact⟨_,rfl,h,.node 9 s [] [],ad.out.aM (an _) O.out.no _ _ _ _,gJ _ _ (by unfold aG;omega) _,jX (by omega) ak.out⟩
  ·clear G;go_wp2_with fail;refine aF (v:=aq #[af ae 5,ah ⟨#[]⟩,ag none 0 0,ag none 0 0]) (by simp[aH,jH,go_sem,ac,k1,k2,k3]) rfl ?_;exact⟨_,rfl,h,.node 5 ⟨#[]⟩ [] [],A.out.aM (an _) E.out.no _ _ _ _,gJ _ _ (by unfold aG;omega) _,jX (by omega) (by kernel_rfl)⟩
  ·clear G;go_wp2_with fail;refine aF (v:=aq #[af ae 5,ah ⟨#[]⟩,ag none 0 0,ag none 0 0]) (by simp[aH,jH,go_sem,ac,k1,k2,k3]) rfl ?_;exact⟨_,rfl,h,.node 5 ⟨#[]⟩ [] [],A.out.aM (an _) E.out.no _ _ _ _,gJ _ _ (by unfold aG;omega) _,jX (by omega) (by kernel_rfl)⟩
 |succ m bg=>
  intro h w aj g L n d bA;have bd:=aa bg;clear bg;have aP:=aa aj;have D:=aa d;have bz:=d.lt;clear aj d;go_enter Tryz.func119,Tryz.ntmps119;go_wp2_with fail;have B0:=aa (Bx.new aP.out #[af ae 0,ah ⟨#[]⟩,ag none 0 0,ag none 0 0] 26);have aQ:=aa ((aL.refl aP.out D.out).alloc (au #[af ae 0,ah ⟨#[]⟩,ag none 0 0,ag none 0 0] 26));refine(dW h _ aQ.out.I g L n (D.out.alloc _) 7 (by omega) (by omega)).mono ?_;rintro e w1 ⟨rfl,G⟩;have E:=aa (B0.out.call G (by omega));have A:=aa (aQ.out.call G);have hz:w.heap.size<w1.heap.size:=E.out.has.lt;have⟨⟨ac,k1,k2,k3⟩,bH,bI,bJ,bL⟩:=E.out.four;have bm:=jo L n 7 (by omega);generalize a8 L n 7=r at*;have a3:r=0∨r=1∨r=2∨r=3∨r=4∨r=5∨r=6:=by omega
  rcases a3 with rfl|rfl|rfl|rfl|rfl|rfl|rfl;·clear G;go_wp2_with fail;refine aF (v:=aq #[af ae 5,ah ⟨#[]⟩,ag none 0 0,ag none 0 0]) (by simp[aH,jH,go_sem,ac,k1,k2,k3]) rfl ?_;exact⟨_,rfl,h,.node 5 ⟨#[]⟩ [] [],A.out.aM (an _) E.out.no _ _ _ _,gJ _ _ (by unfold aG;omega) _,jX (by omega) (by kernel_rfl)⟩
  ·clear G;go_wp2_with fail;refine aF (v:=aq #[af ae 5,ah ⟨#[]⟩,ag none 0 0,ag none 0 0]) (by simp[aH,jH,go_sem,ac,k1,k2,k3]) rfl ?_;exact⟨_,rfl,h,.node 5 ⟨#[]⟩ [] [],A.out.aM (an _) E.out.no _ _ _ _,gJ _ _ (by unfold aG;omega) _,jX (by omega) (by kernel_rfl)⟩
  ·clear G;go_wp2_with fail;refine aF (v:=aq #[af ae 7,ah ⟨#[]⟩,ag none 0 0,ag none 0 0]) (by simp[aH,jH,go_sem,ac,k1,k2,k3]) rfl ?_;exact⟨_,rfl,h,.node 7 ⟨#[]⟩ [] [],A.out.aM (an _) E.out.no _ _ _ _,gJ _ _ (by unfold aG;omega) _,jX (by omega) (by kernel_rfl)⟩
  ·clear G;go_wp2_with fail;refine aF (v:=aq #[af ae 6,ah ⟨#[]⟩,ag none 0 0,ag none 0 0]) (by simp[aH,jH,go_sem,ac,k1,k2,k3]) rfl ?_;exact⟨_,rfl,h,.node 6 ⟨#[]⟩ [] [],A.out.aM (an _) E.out.no _ _ _ _,gJ _ _ (by unfold aG;omega) _,jX (by omega) (by kernel_rfl)⟩
  ·obtain⟨aO,Y⟩:=A.out.bj;have Y:=aa Y;clear G;go_wp2_with fail;refine(jn h _ (A.out.I.alloc _) g L aO (Y.out.alloc _) w1.heap.size 4 4 #[ah ⟨#[84]⟩,ah ⟨#[85]⟩,ah ⟨#[65,46,84]⟩,ah ⟨#[66,46,85]⟩] (Has.new w1 _ _) (by omega) (by omega) (by omega) (fun i aj=>ik [ah ⟨#[84]⟩,ah ⟨#[85]⟩,ah ⟨#[65,46,84]⟩,ah ⟨#[66,46,85]⟩] (r5 9) (by kernel_rfl) i aj)).mono ?_;rintro e w2 ⟨s,rfl,ak,ab⟩;have ak:=aa ak;have O:=aa ((E.out.alloc _).call ab (by omega));have ad:=aa ((A.out.alloc _).call ab);have aX:w.heap.size<w2.heap.size:=O.out.has.lt;have⟨⟨ax,aB,aM,aN⟩,a4,a5,a9,ba⟩:=O.out.four;clear ab;go_wp2_with fail;refine aF (v:=aq #[af ae 9,ah s,ag none 0 0,ag none 0 0]) (by simp[aH,jH,go_sem,ax,aB,aM,aN]) rfl ?_;exact⟨_,rfl,h,.node 9 s [] [],ad.out.aM (an _) O.out.no _ _ _ _,gJ _ _ (by unfold aG;omega) _,jX (by omega) ak.out⟩
  ·obtain⟨aO,Y⟩:=A.out.bj;have Y:=aa Y;clear G;have bp:((m+1:Nat):Int)-1=(m:Int):=by omega
   have bq:¬((m+1:Nat):Int)<1:=by omega
   have bv:(m:Int)+1-1=(m:Int):=by omega
   go_wp2_with fail;refine(bd.out h _ A.out.I g L aO Y.out (by omega)).mono ?_;rintro e w2 ⟨bC,rfl,h2,M,ab,am,a1⟩;obtain⟨aT,aV,aS,ck,bG,rfl,bB,-,-,-,-,-⟩:=am.open;have O:=aa (E.out.call ab (by omega));have ad:=aa (A.out.call ab);have aZ:=aa am;have aX:w.heap.size<w2.heap.size:=O.out.has.lt;have⟨⟨ax,aB,aM,aN⟩,a4,a5,a9,ba⟩:=O.out.four;have bE:w.heap.size<w2.heap.size+1:=by omega
   clear ab am;go_wp2_with fail;refine aF (v:=aq #[af ae 8,ah ⟨#[]⟩,ag none 0 0,ag (some ⟨w2.heap.size,0,none⟩) 1 1]) (by simp[aH,jH,go_sem,ax,aB,aM,aN,aX]) rfl ?_;have aY:=(ad.out.aM (an _) O.out.no (af ae 8) (ah ⟨#[]⟩) (ag none 0 0) (ag (some ⟨w2.heap.size,0,none⟩) 1 1)).lay [af ae M.kind,ah M.text,ag aT M.leads.length aV,ag aS M.kids.length ck] 26 w2.heap.size (by simp[ef]);have a2:h2.le (h2.add w2.heap.size ([af ae M.kind,ah M.text,ag aT M.leads.length aV,ag aS M.kids.length ck]:List Value).toArray):=Hp.eG _ ad.out.I.iI;exact⟨_,rfl,_,.node 8 ⟨#[]⟩ [] [M],aY,jL (jM _ _ _) (aJ.one ((dq aZ.out).mono a2)) 1 rfl (by simp) _ (by unfold aG;omega) _,Ah a1⟩
  ·obtain⟨aO,Y⟩:=A.out.bj;have Y:=aa Y;clear G;have bp:((m+1:Nat):Int)-1=(m:Int):=by omega
   have bq:¬((m+1:Nat):Int)<1:=by omega
   have bv:(m:Int)+1-1=(m:Int):=by omega
   go_wp2_with fail;refine(bd.out h _ A.out.I g L aO Y.out (by omega)).mono ?_;rintro e w2 ⟨bC,rfl,h2,M,ab,am,a1⟩;obtain⟨aT,aV,aS,ck,bG,rfl,bB,-,-,-,-,-⟩:=am.open;have O:=aa (E.out.call ab (by omega));have ad:=aa (A.out.call ab);have aZ:=aa am;have aX:w.heap.size<w2.heap.size:=O.out.has.lt;have⟨⟨ax,aB,aM,aN⟩,a4,a5,a9,ba⟩:=O.out.four;have bE:w.heap.size<w2.heap.size+1:=by omega
   clear ab am;go_wp2_with fail;refine aF (v:=aq #[af ae 8,ah ⟨#[]⟩,ag none 0 0,ag (some ⟨w2.heap.size,0,none⟩) 1 1]) (by simp[aH,jH,go_sem,ax,aB,aM,aN,aX]) rfl ?_;have aY:=(ad.out.aM (an _) O.out.no (af ae 8) (ah ⟨#[]⟩) (ag none 0 0) (ag (some ⟨w2.heap.size,0,none⟩) 1 1)).lay [af ae M.kind,ah M.text,ag aT M.leads.length aV,ag aS M.kids.length ck] 26 w2.heap.size (by simp[ef]);have a2:h2.le (h2.add w2.heap.size ([af ae M.kind,ah M.text,ag aT M.leads.length aV,ag aS M.kids.length ck]:List Value).toArray):=Hp.eG _ ad.out.I.iI;exact⟨_,rfl,_,.node 8 ⟨#[]⟩ [] [M],aY,jL (jM _ _ _) (aJ.one ((dq aZ.out).mono a2)) 1 rfl (by simp) _ (by unfold aG;omega) _,Ah a1⟩
end Go.Proofs.YtdplggpbgommnaaGreatDoor
