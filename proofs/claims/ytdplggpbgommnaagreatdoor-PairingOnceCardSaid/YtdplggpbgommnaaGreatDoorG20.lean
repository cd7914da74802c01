/- Trees that are made: of the right shape, with short texts. -/
import Derived.Test.YtdplggpbgommnaaGreatDoorG19
open Bool renaming and_eq_true->cy
open Go renaming bodyPost_ret->aF,results->aH
open Go.Addr.mk renaming injEq->cx
open Go.IntKind renaming i64->ae
open Go.Lib renaming hid->aa
open Go.Obj renaming cells->au
open Go.Proofs.Tryz renaming prog->ai,results119->jH
open Go.RowKit.Below renaming heap_setCell->cH
open Go.Value renaming agg->aq,int->af,pointer->az,slice->ag,string->ah
open Go.Value.agg renaming injEq->oG
open Go.Value.slice renaming injEq->bU
open Go.World renaming cell?_of_block->dc,frozen?_of_block->kG,setCell->ef
open Go.World.grownBy renaming refl->kC
open Int renaming tmod_lt_of_pos->we
open List renaming length_append->cI,length_cons->bF,length_nil->cL,mem_append->xm,mem_cons_of_mem->cW,mem_singleton->eR
open Nat renaming add_mul->gN,le_refl->kI,lt_of_lt_of_le->bK,mul_le_mul_right->mq
open Option.some renaming injEq->aC,inj->aU
set_option maxHeartbeats 4000000
set_option maxRecDepth 100000
namespace Go.Proofs.YtdplggpbgommnaaGreatDoor
open Go.RowKit
mutual
def Tree.ia:Tree->Prop
 | .node _ s _ ks=>s.size<=1000/\ib ks
def ib:List Tree->Prop
 |[]=>True
 |t::ts=>t.ia/\ib ts
end
def dw(t:Tree):Prop:=ep t=true/\t.ia
def fu(k:Int)(s:ByteArray):Bool:=K4 k s&&decide (s.size<=1000)
def r5(k:Int)(s:ByteArray):Bool:=decide (0<=b9 k 0)&&(jW k&&fu k s)
def ka(k:Int)(s:ByteArray):Bool:=decide (0<=b9 k 0)&&(fj k&&fu k s)
def mC(k:Int)(s:ByteArray):Bool:=fu k s&&decide (s.size=1)
def MT(b:Nat)(t:Tree):Prop:=t.size<=b/\dw t/\jW t.kind=true
def ME(b:Nat)(t:Tree):Prop:=t.size<=b/\dw t/\fj t.kind=true
def MU(b:Nat)(t:Tree):Prop:=t.size<=b/\dw t/\gI t.kind=true
def MD(t:Tree):Prop:=(t.size<=120/\(t.kind=2\/t.kind=3))/\dw t/\t.text.size=1
def GW(k:Int)(n:Nat):Nat->List Tree->Prop
 |_,[]=>True
 |i,t::ts=>(jb k n i t.kind=true/\dw t)/\GW k n (i+1) ts
theorem GW.spec{k:Int}{n:Nat}:∀{i:Nat} {ts:List Tree},GW k n i ts->fZ k n i ts=true/\ib ts
 |i,[],_=>by rw[fZ,ib];exact⟨rfl,trivial⟩
 |i,t::ts,h=>by obtain⟨⟨h1,h2,G⟩,J⟩:=h;obtain⟨O,Y⟩:=J.spec;rw[fZ,ib,h1,h2,O];exact⟨rfl,G,Y⟩
theorem GW.KZ{k:Int}{n:Nat}:∀{i:Nat} {a b:List Tree},GW k n i a->GW k n (i+a.length) b->GW k n i (a++b)
 |i,[],b,_,h=>h
 |i,t::a,b,h1,h2=>⟨h1.1,GW.KZ h1.2 (by rw[bF]at h2;rw[show i+1+a.length=i+(a.length+1) by omega];exact h2)⟩
theorem GW.all{k:Int}{n:Nat}:∀{j:Nat} {ts:List Tree},(∀t∈ts,(∀i,i<j+ts.length->jb k n i t.kind=true)/\dw t)->GW k n j ts
 |_,[],_=>trivial
 |j,t::ts,h=>by have G:=h t List.mem_cons_self;exact⟨⟨G.1 j (by simp),G.2⟩,GW.all fun u J=>⟨fun i O=>(h u (cW _ J)).1 i (by rw[bF];omega),(h u (cW _ J)).2⟩⟩
theorem Af{k:Int}{s:ByteArray}(h:fu k s=true):K4 k s=true/\s.size<=1000:=by unfold fu at h;rw[cy,decide_eq_true_iff]at h;exact h
theorem je{k:Int}{s:ByteArray}{ts:List Tree}(Y:decide (0<=b9 k ts.length)=true)(ab:fu k s=true)(O:GW k ts.length 0 ts):dw (.node k s [] ts):=by
 obtain⟨h1,h2⟩:=O.spec;obtain⟨G,J⟩:=Af ab;refine⟨?_,?_⟩;·rw[ep,Y,G,h1];rfl
 ·rw[Tree.ia];exact⟨J,h2⟩
theorem jX{k:Int}{s:ByteArray}{b:Nat}(h:1<=b)(G:r5 k s=true):MT b (.node k s [] []):=by unfold r5 at G;simp only[cy]at G;exact⟨by simpa[Tree.size,ax]using h,je G.1 G.2.2 trivial,G.2.1⟩
theorem n9{k:Int}{s:ByteArray}{b:Nat}(h:1<=b)(G:ka k s=true):ME b (.node k s [] []):=by unfold ka at G;simp only[cy]at G;exact⟨by simpa[Tree.size,ax]using h,je G.1 G.2.2 trivial,G.2.1⟩
theorem Ag{s:ByteArray}(h:ka 12 s=true):fu 20 s=true/\fu 4 s=true:=by unfold ka at h;simp only[cy]at h;exact⟨h.2.2,h.2.2⟩
theorem HF{r:Int}{b:Nat}(h:1<=b)(G:0<=r)(h1:r<2):ME b (.node (13+r) ⟨#[]⟩ [] []):=by
 have:r=0\/r=1:=by omega
 rcases this with rfl|rfl;·exact n9 h (by kernel_rfl)
 ·exact n9 h (by kernel_rfl)
theorem Ah{b:Nat}{t:Tree}(h:MT b t):MT (b+1) (.node 8 ⟨#[]⟩ [] [t]):=
 ⟨by have:=h.1;simp only[Tree.size,ax];omega,je rfl (by kernel_rfl) ⟨⟨h.2.2,h.2.1⟩,trivial⟩,rfl⟩
theorem Ai{b:Nat}{t:Tree}(h:ME b t):MU (b+1) (.node 22 ⟨#[]⟩ [] [t]):=
 ⟨by have:=h.1;simp only[Tree.size,ax];omega,je rfl (by kernel_rfl) ⟨⟨h.2.2,h.2.1⟩,trivial⟩,rfl⟩
theorem MU.expr{b:Nat}{t:Tree}(h:MU b t):ME b t:=⟨h.1,h.2.1,by have:=h.2.2;unfold gI at this;rw[cy]at this;exact this.1⟩
theorem ME.le{b c:Nat}{t:Tree}(h:ME b t)(G:b<=c):ME c t:=⟨Nat.le_trans h.1 G,h.2⟩
theorem HG{b c:Nat}{t u v:Tree}(h1:ME b t)(h2:ME b u)(G:ME b v)(hc:3*b+1<=c):ME c (.node 19 ⟨#[]⟩ [] [t,u,v]):=
 ⟨by have:=h1.1;have:=h2.1;have:=G.1;simp only[Tree.size,ax];omega,je rfl (by kernel_rfl) ⟨⟨h1.2.2,h1.2.1⟩,⟨h2.2.2,h2.2.1⟩,⟨G.2.2,G.2.1⟩,trivial⟩,rfl⟩
theorem HH{b c:Nat}{s:ByteArray}{t u:Tree}(hs:ka 12 s=true)(h1:ME b t)(h2:ME b u)(hc:2*b+1<=c):ME c (.node 20 s [] [t,u]):=
 ⟨by have:=h1.1;have:=h2.1;simp only[Tree.size,ax];omega,je rfl (Ag hs).1 ⟨⟨h1.2.2,h1.2.1⟩,⟨h2.2.2,h2.2.1⟩,trivial⟩,rfl⟩
theorem Aj{b1 b2 c:Nat}{s:ByteArray}{t u:Tree}(hs:fu 21 s=true)(h1:t.size<=b1/\dw t/\(gI t.kind=true\/t.kind=21))(h2:MU b2 u)(hc:b1+b2+1<=c):ME c (.node 21 s [] [t,u]):=by
 refine⟨by have:=h1.1;have:=h2.1;simp only[Tree.size,ax];omega,je rfl hs ⟨⟨?_,h1.2.1⟩,⟨?_,h2.2.1⟩,trivial⟩,rfl⟩
 ·show(gI t.kind||(decide (0=0)&&decide (t.kind=21)))=true;rcases h1.2.2 with h|h;·rw[h];rfl
  ·rw[h];rfl
 ·show(gI u.kind||(decide (0+1=0)&&decide (u.kind=21)))=true;rw[h2.2.2];rfl
theorem Ak{b1 b2 c:Nat}{s:ByteArray}{t u:Tree}(hs:fu 21 s=true)(h1:MU b1 t)(h2:MU b2 u)(hc:b1+b2+1<=c):ME c (.node 21 s [] [t,u]):=Aj hs ⟨h1.1,h1.2.1,.inl h1.2.2⟩ h2 hc
theorem HI{b1 b2 b3 c:Nat}{s r:ByteArray}{t u v:Tree}(hs:fu 21 s=true)(hr:fu 21 r=true)(h1:MU b1 t)(h2:MU b2 u)(G:MU b3 v)(hc:b1+b2+b3+2<=c):ME c (.node 21 s [] [.node 21 r [] [t,u],v]):=by have h:=Ak hr h1 h2 (kI _);exact Aj hs ⟨h.1,h.2.1,.inr rfl⟩ G (by omega)
theorem r6(a b:List Tree):ax (a++b)=ax a+ax b:=by
 induction a with
 |nil=>simp[ax]
 |cons t a G=>rw[List.cons_append,gR,gR,G];omega
def qM(b:Nat)(ts:List Tree):Prop:=ax ts<=ts.length*(b+1)/\∀t∈ts,t.kind=17/\dw t
def qN(b:Nat)(ts:List Tree):Prop:=ax ts<=ts.length*(b+1)/\∀t∈ts,fj t.kind=true/\dw t
def qO(ts:List Tree):Prop:=ax ts<=ts.length*3/\∀t∈ts,t.kind=4/\dw t
theorem Cz{ts:List Tree}{t:Tree}{b:Nat}(h:qM b ts)(J:ME b t):qM b (ts++[.node 17 ⟨#[]⟩ [] [t]]):=by
 refine⟨?_,fun u G=> ?_⟩;·have:=h.1;have:=J.1;rw[r6,cI,gN];simp only[ax,Tree.size,bF,cL];omega
 ·rcases xm.1 G with G|G;·exact h.2 u G
  ·obtain rfl:=eR.1 G;exact⟨rfl,je rfl (by kernel_rfl) ⟨⟨J.2.2,J.2.1⟩,trivial⟩⟩
theorem CC{ts:List Tree}{t:Tree}{b:Nat}(h:qN b ts)(J:ME b t):qN b (ts++[t]):=by
 refine⟨?_,fun u G=> ?_⟩;·have:=h.1;have:=J.1;rw[r6,cI,gN];simp only[ax,bF,cL];omega
 ·rcases xm.1 G with G|G;·exact h.2 u G
  ·obtain rfl:=eR.1 G;exact⟨J.2.2,J.2.1⟩
theorem CL{ts:List Tree}{t:Tree}{s:ByteArray}(h:qO ts)(J:MT (1+1) t)(hs:ka 12 s=true):qO (ts++[.node 4 s [] [t]]):=by
 refine⟨?_,fun u G=> ?_⟩;·have:=h.1;have:=J.1;rw[r6,cI,gN];simp only[ax,Tree.size,bF,cL];omega
 ·rcases xm.1 G with G|G;·exact h.2 u G
  ·obtain rfl:=eR.1 G;exact⟨rfl,je rfl (Ag hs).2 ⟨⟨J.2.2,J.2.1⟩,trivial⟩⟩
theorem CA{ts:List Tree}{s:ByteArray}{b c:Nat}(h:qM b ts)(hs:fu 16 s=true)(J:ts.length<=3)(hc:3*b+4<=c):ME c (.node 16 s [] ts):=by
 refine⟨?_,je (decide_eq_true ?_) hs (GW.all fun t G=>⟨fun i _=> ?_,(h.2 t G).2⟩),rfl⟩;·have:=h.1;have:ts.length*(b+1)<=3*(b+1):=mq _ J;simp only[Tree.size];omega
 ·show(0:Int)<=if ts.length=0 then 3 else((ts.length:Nat):Int)+2;split<;>omega
 ·show decide (t.kind=17)=true;rw[(h.2 t G).1];rfl
theorem CD{ts:List Tree}{b c:Nat}(h:qN b ts)(O:1<=ts.length)(J:ts.length<=3)(hc:3*b+4<=c):ME c (.node 18 ⟨#[]⟩ [] ts):=by
 refine⟨?_,je (decide_eq_true ?_) (by kernel_rfl) (GW.all fun t G=>⟨fun i _=>(h.2 t G).1,(h.2 t G).2⟩),rfl⟩;·have:=h.1;have:ts.length*(b+1)<=3*(b+1):=mq _ J;simp only[Tree.size];omega
 ·show(0:Int)<=if ts.length=0 then-1 else((ts.length:Nat):Int)+1;rw[if_neg (by omega)];omega
theorem CJ{s:ByteArray}{t:Tree}(hs:mC 3 s=true)(h:MT (2+1) t):MD (.node 3 s [] [t]):=by unfold mC at hs;rw[cy,decide_eq_true_iff]at hs;exact⟨⟨by have:=h.1;simp only[Tree.size,ax];omega,.inr rfl⟩,je rfl hs.1 ⟨⟨h.2.2,h.2.1⟩,trivial⟩,hs.2⟩
theorem CM{s:ByteArray}{ts:List Tree}{t u:Tree}(hs:mC 2 s=true)(hp:qO ts)(O:ts.length<=3)(G:MT (1+1) t)(J:ME 105 u):MD (.node 2 s [] (ts++[t,u])):=by
 unfold mC at hs;rw[cy,decide_eq_true_iff]at hs;have e:(ts++[t,u]).length=ts.length+2:=by simp
 refine⟨⟨?_,.inl rfl⟩,je (decide_eq_true ?_) hs.1 ?_,hs.2⟩;·have:=hp.1;have:=G.1;have:=J.1;have:ts.length*3<=3*3:=mq _ O;simp only[Tree.size];rw[r6];simp only[ax];omega
 ·rw[e];show(0:Int)<=if ts.length+2<2 then-1 else if ts.length+2=2 then 6 else((ts.length+2:Nat):Int)+3;rw[if_neg (by omega)];split<;>omega
 ·rw[e];refine GW.KZ (GW.all fun v hv=>⟨fun i Y=> ?_,(hp.2 v hv).2⟩) ⟨⟨?_,G.2.1⟩,⟨?_,J.2.1⟩,trivial⟩;·show(if i+1=ts.length+2 then fj v.kind else if i+2=ts.length+2 then jW v.kind else decide (v.kind=4))=true;rw[if_neg (by omega),if_neg (by omega),(hp.2 v hv).1];rfl
  ·show(if 0+ts.length+1=ts.length+2 then fj t.kind else if 0+ts.length+2=ts.length+2 then jW t.kind else decide (t.kind=4))=true;rw[if_neg (by omega),if_pos (by omega)];exact G.2.2
  ·show(if 0+ts.length+1+1=ts.length+2 then fj u.kind else if 0+ts.length+1+2=ts.length+2 then jW u.kind else decide (u.kind=4))=true;rw[if_pos (by omega)];exact J.2.2
def r7(p:ByteArray->Bool):List Value->Bool
 |[]=>true
 | ah s::l=>p s&&r7 p l
 |_=>false
theorem ik:∀(l:List Value) (p:ByteArray->Bool),r7 p l=true->∀i,i<l.length->∃s,l.toArray[i]? =some (ah s)/\p s=true
 |[],_,_,i,G=>by simp at G
 | ah s::l,p,h,0,_=>⟨s,by simp,by rw[r7,cy]at h;exact h.1⟩
 | ah s::l,p,h,i+1,G=>by rw[r7,cy]at h;obtain⟨u,J,hp⟩:=ik l p h.2 i (by simpa using G);exact⟨u,by simpa using J,hp⟩
def oc(n m:Int):Int:=if n.tmod m<0 then n.tmod m+m else n.tmod m
theorem HJ(n m:Int)(h:0<m):0<=oc n m/\oc n m<m:=by
 have h1:=we n h;have h2: -m<n.tmod m:=by have:=we (-n) h;rw[Int.neg_tmod]at this;omega
 unfold oc;split<;>omega
theorem HK(w:World)(n m:Int)(_hn:aG n)(h:0<m)(hm:m<=4611686018427387904):Calls ai 15 #[af ae n,af ae m] w fun e w'=>e= .returned (af ae (oc n m))/\w=w':=by
 have h1:=we n h;have h2: -m<n.tmod m:=by have:=we (-n) h;rw[Int.neg_tmod]at this;omega
 have G:(m==0)=false:=by simp;omega
 have O:m≠0:=by omega
 have J:(m== -1)=false:=by simp;omega
 unfold aG at _hn;unfold oc;by_cases hc:n.tmod m<0;·rw[if_pos hc];go_in;go_wp2_with fail;go_ret;exact⟨rfl,rfl⟩
 ·rw[if_neg hc];go_in;go_wp2_with fail;go_ret;exact⟨rfl,rfl⟩
theorem Al(w:World)(a:Option Addr)(n c:Nat)(_hn:n<=9223372036854775807):Calls ai 13 #[ag a n c] w fun e w'=>e= .returned (.bool (decide ((n:Int)<=120)))/\w=w':=by go_in;go_wp2_with fail;go_ret;exact⟨rfl,rfl⟩
theorem HL{P:Program}{f:FuncId}{args:Array Value}{w:World}{n:Nat}{v:Value}(h:Calls P f args (w.drewN n) fun e w'=>e= .returned v/\w.drewN n=w'):Calls P f args (w.drewN n) fun e G=>e= .returned v/\∃m,G=w.drewN m:=
 h.mono fun _ _ ⟨he,hm⟩=>⟨he,n,hm.symm⟩
structure cA(h:Hp)(w:World)(g:Nat)(L:List Int)(n:Nat):Prop where
 free:h g=none
 lt:g<w.heap.size
 le:n<=L.length
 cells:∃a cap,w.cell? ⟨g,0,none⟩=some (ag a L.length cap)/\Ints h (ag a L.length cap) L
 u3:w.cell? ⟨g,1,none⟩=some (af ae n)
 fz:w.frozen? ⟨g,1,none⟩=false
theorem cA.keep{h h':Hp}{w w':World}{g:Nat}{L:List Int}{n:Nat}(d:cA h w g L n)(G:w'.heap[g]? =w.heap[g]?)(hs:w.heap.size<=w'.heap.size)(Y:h.le h')(O:h' g=none):cA h' w' g L n:=by obtain⟨a,J,h1,h2⟩:=d.cells;have hc:∀i,w'.cell? ⟨g,i,none⟩=w.cell? ⟨g,i,none⟩:=fun i=>dc (a:=⟨g,i,none⟩) G;exact⟨O,bK d.lt hs,d.le,⟨a,J,by rw[hc];exact h1,h2.mono Y⟩,by rw[hc];exact d.u3,by rw[kG (a:=⟨g,1,none⟩) G];exact d.fz⟩
theorem cA.alloc{h:Hp}{w:World}{g:Nat}{L:List Int}{n:Nat}(d:cA h w g L n)(o:Obj):cA h (w.alloc o) g L n:=
 d.keep (Below.heap_alloc _ _ _ d.lt) (by simp) (Hp.le_refl _) d.free
theorem cA.drew{h:Hp}{w:World}{g:Nat}{L:List Int}{n:Nat}(d:cA h w g L n):cA h w.drew g L n:=d.keep rfl (kI _) (Hp.le_refl _) d.free
theorem cA.setCell{h:Hp}{w:World}{g:Nat}{L:List Int}{n:Nat}(d:cA h w g L n){p:Addr}(hp:p.block≠g)(v:Value):cA h (w.setCell p v) g L n:=
 d.keep (cH _ _ _ _ (fun e=>hp e.symm)) (by simp[ef]) (Hp.le_refl _) d.free
structure aL(g:Nat)(L:List Int)(h:Hp)(w:World)(h':Hp)(w':World):Prop where
 gr:w.grownBy w' (some g)
 I:ao h' w'
 le:h.le h'
 aI:∀b,b<w.heap.size->h' b=h b
 lt:g<w.heap.size
 bj:∃n,cA h' w' g L n
section
variable {g:Nat} {L:List Int} {h h1 h2:Hp} {w w1 w2:World} {n:Nat}
theorem aL.refl(G:ao h w)(d:cA h w g L n):aL g L h w h w:=⟨kC _ _,G,Hp.le_refl _,fun _ _=>rfl,d.lt,n,d⟩
theorem aL.call(s:aL g L h w h1 w1)(t:aL g L h1 w1 h2 w2):aL g L h w h2 w2:=
 ⟨kc s.gr t.gr (fun _k J=> .inl J),t.I,Hp.le_trans s.le t.le,fun b G=>(t.aI b (bK G s.gr.size)).trans (s.aI b G),s.lt,t.bj⟩
theorem aL.alloc(s:aL g L h w h1 w1)(o:Obj):aL g L h w h1 (w1.alloc o):=by obtain⟨n,d⟩:=s.bj;exact⟨mD s.gr o,s.I.alloc o,s.le,s.aI,s.lt,n,d.alloc o⟩
theorem aL.drew(s:aL g L h w h1 w1):aL g L h w h1 w1.drew:=by obtain⟨n,d⟩:=s.bj;exact⟨⟨s.gr.os,s.gr.tape,s.gr.output,s.gr.size,s.gr.block⟩,s.I,s.le,s.aI,s.lt,n,d.drew⟩
theorem aL.setCell(s:aL g L h w h1 w1){p:Addr}(hp:w.heap.size<=p.block)(hn:h1 p.block=none)(v:Value):aL g L h w h1 (w1.setCell p v):=by
 obtain⟨n,d⟩:=s.bj;have G:p.block≠g:=by have:=s.lt;omega
 exact⟨pJ s.gr (.inr hp) v,s.I.keep fun b c hc=>cH _ _ _ _ (fun e=>by subst e;rw[hn]at hc;cases hc),s.le,s.aI,s.lt,n,d.setCell G v⟩
theorem aL.add(s:aL g L h w h1 w1){b:Nat}{c:Array Value}(O:w.heap.size<=b)(hn:h1 b=none)(hc:bi w1 b=some c):aL g L h w (h1.add b c) w1:=by
 obtain⟨n,d⟩:=s.bj;have Y:=s.lt;have J:∀k,k≠b->(h1.add b c) k=h1 k:=fun k G=>by unfold Hp.add;rw[if_neg G]
 exact⟨s.gr,s.I.add hc,Hp.le_trans s.le (Hp.eG _ hn),fun k G=>by rw[J k (by omega)];exact s.aI k G,s.lt,n,d.keep rfl (kI _) (Hp.eG _ hn) (by rw[J g (by omega)];exact d.free)⟩
theorem Has.dst{b:Nat}{c:Array Value}(x:Has w b c)(s:aL g L h w h1 w1)(G:b≠g):Has w1 b c:=by have e:=s.gr.block b x.lt (fun e=>G (aU e));exact⟨bK x.lt s.gr.size,fun q=>(dc (a:=⟨b,q,none⟩) e).trans (x.cl q),fun q=>(kG (a:=⟨b,q,none⟩) e).trans (x.fz q)⟩
end
theorem aL.drewN{g:Nat}{L:List Int}{h h1:Hp}{w w1:World}(s:aL g L h w h1 w1)(m:Nat):aL g L h w h1 (w1.drewN m):=by obtain⟨n,d⟩:=s.bj;exact⟨⟨s.gr.os,s.gr.tape,s.gr.output,s.gr.size,s.gr.block⟩,s.I,s.le,s.aI,s.lt,n,d.keep rfl (kI _) (Hp.le_refl _) d.free⟩
theorem aL.step{g:Nat}{L:List Int}{h:Hp}{w:World}{n:Nat}(J:ao h w)(d:cA h w g L n)(hn:n<L.length)(z:Int)(hz:z=(n:Int)+1):aL g L h w h (w.setCell ⟨g,1,none⟩ (af ae z)):=by
 subst hz;obtain⟨a,G,h1,h2⟩:=d.cells;refine⟨pJ (kC _ _) (.inl rfl) _,J.keep fun b c hc=>cH _ _ _ _ (fun e=>by have e':b=g:=e;rw[e',d.free]at hc;cases hc),Hp.le_refl _,fun _ _=>rfl,d.lt,n+1,d.free,by simpa[ef]using d.lt,hn,⟨a,G,?_,h2⟩,?_,?_⟩;·rw[World.cell?_setCell_other _ _ _ _ (by simp)];exact h1
 ·exact World.cell?_setCell_same _ _ _ d.u3
 ·have:=d.fz;simp[this]
def a8(L:List Int)(n:Nat)(m:Int):Int:=if n<L.length then oc (L.getD n 0) m else 0
theorem jo(L:List Int)(n:Nat)(m:Int)(h:0<m):0<=a8 L n m/\a8 L n m<m:=by
 unfold a8;split;·exact HJ _ _ h
 ·omega
theorem dW(h:Hp)(w:World)(aB:ao h w)(g:Nat)(L:List Int)(n:Nat)(d:cA h w g L n)(m:Int)(aJ:0<m)(hm:m<=1000):Calls ai 40 #[az (some ⟨g,0,none⟩),af ae m] w fun e w'=>e= .returned (af ae (a8 L n m))/\aL g L h w h w':=by
 have a2:=d.lt;have a1:=d.le;have D:=aa d;obtain⟨a,aP,aO,O⟩:=d.cells;have c1:=d.u3;have aT:=d.fz;have IN:=aa O;have G:=aa aB;have aV:=O.1.len.1;clear d O aB;by_cases hc:n<L.length
 ·obtain⟨aN,aS,Y,-,ab⟩:=Ints.open IN.out;simp only[bU,true_and]at Y;obtain⟨rfl,rfl⟩:=Y;obtain⟨b,off,rfl,aX,ax⟩:=ab w G.out (by omega);have aZ:=ax n hc;have hr:=IN.out.2 L[n] (by simp)
  have aY:b≠g:=fun e=>by
   obtain⟨s,_⟩:=IN.out;obtain⟨a',aQ,he,_,_,aj⟩:=s;simp only[bU,true_and]at he;obtain⟨rfl,rfl⟩:=he;rcases aj with aj|⟨b',a3,c,ak,am,_⟩;·omega
   ·simp only[aC,cx,and_true]at ak;rw[<-ak.1,e,D.out.free]at am;cases am
  have J:Hid (a8 L n m=oc L[n] m):=by unfold Hid a8;rw[if_pos hc];simp[List.getD,hc]
  rw[J.out];have aG:=aa hr;generalize L[n]=z at*;clear ax ab hr;have a5:¬(L.length:Int)<=(n:Int):=by omega
  have a9:decide ((L.length:Int)<=(n:Int))=false:=by simpa using hc
  have ba:decide (L.length<=n)=false:=by simpa using hc
  have bd:(0:Int)<=(n:Int):=by omega
  have bg:(n:Int)<(L.length:Int):=by omega
  go_in;go_wp2_with fail;go_quiet(fail);go_wp2_with fail;have a4:ae.wrap (n:Int)=n:=bA (by omega);have aM:=aa (show m<=4611686018427387904 by omega);go_quiet((go_at_call 15;exact HL (HK _ z m aG.out aJ aM.out)));go_wp2_with fail;go_ret;exact⟨rfl,(((aL.refl G.out D.out).drewN _).call (aL.step (G.out.drewN _) (D.out.keep rfl (kI _) (Hp.le_refl _) D.out.free) hc _ rfl)).drewN _⟩
 ·have J:Hid (a8 L n m=0):=by unfold Hid a8;rw[if_neg hc]
  rw[J.out];obtain rfl:n=L.length:=by omega
  go_in;go_wp2_with fail;go_quiet(fail);go_wp2_with fail;go_ret;exact⟨rfl,(aL.refl G.out D.out).drewN _⟩
theorem jn(h:Hp)(w:World)(Y:ao h w)(g:Nat)(L:List Int)(n:Nat)(d:cA h w g L n)(b:Nat)(k c:Nat)(cs:Array Value){P:ByteArray->Prop}(O:Has w b cs)(ax:b≠g)(aG:0<k)(aJ:k<=1000)(hs:∀i,i<k->∃s,cs[i]? =some (ah s)/\P s):Calls ai 118 #[az (some ⟨g,0,none⟩),ag (some ⟨b,0,none⟩) k c] w fun e w'=>∃s,e= .returned (ah s)/\P s/\aL g L h w h w':=by
 have D:=aa d;have aj:=aa Y;have ab:=aa O;have am:=aa hs;clear d Y O hs;go_in;go_wp2_with fail;refine(dW h _ aj.out g L n D.out (k:Int) (by omega) (by omega)).mono ?_;rintro e w1 ⟨rfl,G⟩;have aB:=jo L n (k:Int) (by omega);generalize a8 L n (k:Int)=r at*;obtain⟨j,rfl⟩:∃j:Nat,r=(j:Int):=⟨r.toNat,by omega⟩
 obtain⟨s,hs,hp⟩:=am.out j (by omega);have ak:=aa hp;clear hp;have J:=ab.out.dst G ax;have hc:w1.cell? ⟨b,j,none⟩=some (ah s):=(J.cl j).trans hs;have S:=aa G;clear G J hs;have aM:(0:Int)<=(j:Int):=by omega
 have aN:(j:Int)<(k:Int):=by omega
 go_wp2_with fail;go_ret;exact⟨s,rfl,ak.out,S.out⟩
section
variable {g:Nat} {L:List Int} {h h1 h2:Hp} {w w1 w2:World} {n:Nat}
theorem aL.aM(s:aL g L h w h1 w1){b:Nat}(G:w.heap.size<=b)(hn:h1 b=none)(v0 J O Y:Value):aL g L h w h1 ((((w1.setCell ⟨b,0,none⟩ v0).setCell ⟨b,1,none⟩ J).setCell ⟨b,2,none⟩ O).setCell ⟨b,3,none⟩ Y):=
 (((s.setCell (p:=⟨b,0,none⟩) G hn v0).setCell (p:=⟨b,1,none⟩) G hn J).setCell (p:=⟨b,2,none⟩) G hn O).setCell (p:=⟨b,3,none⟩) G hn Y
theorem aL.lay(s:aL g L h w h1 w1)(cs:List Value)(T:TypeId)(b:Nat)(G:b=w1.heap.size):aL g L h w (h1.add b cs.toArray) (w1.alloc (.cells cs.toArray T)):=by subst G;refine(s.alloc _).add s.gr.size (bI s.I _ (kI _)) ?_;unfold bi;rw[heap_alloc_new]
theorem ao.iI(G:ao h w):h w.heap.size=none:=bI G _ (kI _)
end
def fQ(g:Nat)(L:List Int)(h:Hp)(w:World)(P:Tree->Prop)(e:Ending)(w':World):Prop:=∃v,e= .returned v/\∃h' t,aL g L h w h' w'/\aP h' v t/\P t
theorem gJ(h:Hp)(k:Int)(G:aG k)(s:ByteArray):aP h (aq #[af ae k,ah s,ag none 0 0,ag none 0 0]) (.node k s [] []):=by refine⟨[af ae k,ah s,ag none 0 0,ag none 0 0],rfl,?_⟩;rw[bg];exact⟨none,0,none,0,[],rfl,G,Sl.nil _ _ _ _,Sl.nil _ _ _ _,by rw[eH]⟩
theorem jL{h:Hp}{b:Nat}{cs:List Value}{ts:List Tree}(G:h b=some cs.toArray)(he:aJ (bg h) ts cs)(m:Nat)(hm:m=ts.length)(Y:ts.length<=1000)(k:Int)(J:aG k)(s:ByteArray):aP h (aq #[af ae k,ah s,ag none 0 0,ag (some ⟨b,0,none⟩) m m]) (.node k s [] ts):=by subst hm;refine⟨[af ae k,ah s,ag none 0 0,ag (some ⟨b,0,none⟩) ts.length ts.length],rfl,?_⟩;rw[bg];refine⟨none,0,some ⟨b,0,none⟩,ts.length,cs,rfl,J,Sl.nil _ _ _ _,⟨_,_,rfl,by omega,he.length 4 bg.len,.inr ⟨b,0,cs.toArray,rfl,G,fun i O=>by simp⟩⟩,eH.iff.2 he⟩
theorem wa{h:Hp}{a b c d:Value}{t:Tree}(s:aP h (aq #[a,b,c,d]) t):bg h t [a,b,c,d]:=by
 obtain⟨cs,e,i⟩:=s;have:cs=[a,b,c,d]:=by simp only[oG]at e;have:=congrArg Array.toList e;simpa using this.symm
 rw[this]at i;exact i
theorem jM(h:Hp)(b:Nat)(c:Array Value):(h.add b c) b=some c:=by unfold Hp.add;rw[if_pos rfl]
theorem HM{h:Hp}{b k:Nat}{c:Array Value}(G:k≠b):(h.add b c) k=h k:=by unfold Hp.add;rw[if_neg G]
structure Bx(h:Hp)(w:World)(b:Nat)(c:Array Value):Prop where
 has:Has w b c
 no:h b=none
section
variable {g:Nat} {L:List Int} {h h1:Hp} {w w1:World} {b:Nat} {c:Array Value}
theorem Bx.call(x:Bx h w b c)(s:aL g L h w h1 w1)(G:b≠g):Bx h1 w1 b c:=⟨x.has.dst s G,(s.aI b x.has.lt).trans x.no⟩
theorem Bx.alloc(x:Bx h w b c)(o:Obj):Bx h (w.alloc o) b c:=⟨x.has.alloc o,x.no⟩
theorem Bx.add(x:Bx h w b c){b':Nat}(c':Array Value)(G:b≠b'):Bx (h.add b' c') w b c:=⟨x.has,by rw[HM G];exact x.no⟩
theorem Bx.new(G:ao h w)(c:Array Value)(T:TypeId):Bx h (w.alloc (.cells c T)) w.heap.size c:=⟨Has.new w c T,G.iI⟩
end
theorem Bx.four{h:Hp}{w:World}{b:Nat}{v0 G J O:Value}(x:Bx h w b #[v0,G,J,O]):(w.cell? ⟨b,0,none⟩=some v0/\w.cell? ⟨b,1,none⟩=some G/\w.cell? ⟨b,2,none⟩=some J/\w.cell? ⟨b,3,none⟩=some O)/\w.frozen? ⟨b,0,none⟩=false/\w.frozen? ⟨b,1,none⟩=false/\w.frozen? ⟨b,2,none⟩=false/\w.frozen? ⟨b,3,none⟩=false:=
 ⟨⟨x.has.cl 0,x.has.cl 1,x.has.cl 2,x.has.cl 3⟩,x.has.fz 0,x.has.fz 1,x.has.fz 2,x.has.fz 3⟩
theorem s7(m:Nat):∀(h:Hp) (w:World) (_:ao h w) (g:Nat) (L:List Int) (n:Nat) (_:cA h w g L n) (_:m<=100),Calls ai 119 #[az (some ⟨g,0,none⟩),af ae m] w (fQ g L h w (MT (m+1))):=by
 induction m with
 |zero=>
  intro h w aB g L n d hm;have aV:=aa aB;have D:=aa d;have bB:=d.lt;clear aB d;go_in;go_wp2_with fail;have B0:=aa (Bx.new aV.out #[af ae 0,ah ⟨#[]⟩,ag none 0 0,ag none 0 0] 26);have aX:=aa ((aL.refl aV.out D.out).alloc (au #[af ae 0,ah ⟨#[]⟩,ag none 0 0,ag none 0 0] 26));refine(dW h _ aX.out.I g L n (D.out.alloc _) 7 (by omega) (by omega)).mono ?_;rintro e w1 ⟨rfl,O⟩;have J:=aa (B0.out.call O (by omega));have G:=aa (aX.out.call O);have hz:w.heap.size<w1.heap.size:=J.out.has.lt;have⟨⟨am,k1,k2,k3⟩,bH,bI,bJ,bL⟩:=J.out.four;have bq:=jo L n 7 (by omega);generalize a8 L n 7=r at*;have hr:r=0\/r=1\/r=2\/r=3\/r=4\/r=5\/r=6:=by omega
  rcases hr with rfl|rfl|rfl|rfl|rfl|rfl|rfl;·clear O;go_wp2_with fail;refine aF (v:=aq #[af ae 5,ah ⟨#[]⟩,ag none 0 0,ag none 0 0]) (by simp[aH,jH,go_sem,am,k1,k2,k3]) rfl ?_;exact⟨_,rfl,h,.node 5 ⟨#[]⟩ [] [],G.out.aM (kI _) J.out.no _ _ _ _,gJ _ _ (by unfold aG;omega) _,jX (by omega) (by kernel_rfl)⟩
  ·clear O;go_wp2_with fail;refine aF (v:=aq #[af ae 5,ah ⟨#[]⟩,ag none 0 0,ag none 0 0]) (by simp[aH,jH,go_sem,am,k1,k2,k3]) rfl ?_;exact⟨_,rfl,h,.node 5 ⟨#[]⟩ [] [],G.out.aM (kI _) J.out.no _ _ _ _,gJ _ _ (by unfold aG;omega) _,jX (by omega) (by kernel_rfl)⟩
  ·clear O;go_wp2_with fail;refine aF (v:=aq #[af ae 7,ah ⟨#[]⟩,ag none 0 0,ag none 0 0]) (by simp[aH,jH,go_sem,am,k1,k2,k3]) rfl ?_;exact⟨_,rfl,h,.node 7 ⟨#[]⟩ [] [],G.out.aM (kI _) J.out.no _ _ _ _,gJ _ _ (by unfold aG;omega) _,jX (by omega) (by kernel_rfl)⟩
  ·clear O;go_wp2_with fail;refine aF (v:=aq #[af ae 6,ah ⟨#[]⟩,ag none 0 0,ag none 0 0]) (by simp[aH,jH,go_sem,am,k1,k2,k3]) rfl ?_;exact⟨_,rfl,h,.node 6 ⟨#[]⟩ [] [],G.out.aM (kI _) J.out.no _ _ _ _,gJ _ _ (by unfold aG;omega) _,jX (by omega) (by kernel_rfl)⟩
  ·obtain⟨aT,aj⟩:=G.out.bj;have aj:=aa aj;clear O;go_wp2_with fail;refine(jn h _ (G.out.I.alloc _) g L aT (aj.out.alloc _) w1.heap.size 4 4 #[ah ⟨#[84]⟩,ah ⟨#[85]⟩,ah ⟨#[65,46,84]⟩,ah ⟨#[66,46,85]⟩] (Has.new w1 _ _) (by omega) (by omega) (by omega) (fun i aB=>ik [ah ⟨#[84]⟩,ah ⟨#[85]⟩,ah ⟨#[65,46,84]⟩,ah ⟨#[66,46,85]⟩] (r5 9) (by kernel_rfl) i aB)).mono ?_;rintro e w2 ⟨s,rfl,aM,ak⟩;have aM:=aa aM;have ab:=aa ((J.out.alloc _).call ak (by omega));have ax:=aa ((G.out.alloc _).call ak);have a1:w.heap.size<w2.heap.size:=ab.out.has.lt;have⟨⟨aO,aP,aQ,aS⟩,a9,ba,bd,bg⟩:=ab.out.four;clear ak;go_wp2_with fail;refine aF (v:=aq #[af ae 9,ah s,ag none 0 0,ag none 0 0]) (by simp[aH,jH,go_sem,aO,aP,aQ,aS]) rfl ?_;exact⟨_,rfl,h,.node 9 s [] [],ax.out.aM (kI _) ab.out.no _ _ _ _,gJ _ _ (by unfold aG;omega) _,jX (by omega) aM.out⟩
  ·clear O;go_wp2_with fail;refine aF (v:=aq #[af ae 5,ah ⟨#[]⟩,ag none 0 0,ag none 0 0]) (by simp[aH,jH,go_sem,am,k1,k2,k3]) rfl ?_;exact⟨_,rfl,h,.node 5 ⟨#[]⟩ [] [],G.out.aM (kI _) J.out.no _ _ _ _,gJ _ _ (by unfold aG;omega) _,jX (by omega) (by kernel_rfl)⟩
  ·clear O;go_wp2_with fail;refine aF (v:=aq #[af ae 5,ah ⟨#[]⟩,ag none 0 0,ag none 0 0]) (by simp[aH,jH,go_sem,am,k1,k2,k3]) rfl ?_;exact⟨_,rfl,h,.node 5 ⟨#[]⟩ [] [],G.out.aM (kI _) J.out.no _ _ _ _,gJ _ _ (by unfold aG;omega) _,jX (by omega) (by kernel_rfl)⟩
 |succ m bp=>
  intro h w aB g L n d hm;have bm:=aa bp;clear bp;have aV:=aa aB;have D:=aa d;have bB:=d.lt;clear aB d;go_in;go_wp2_with fail;have B0:=aa (Bx.new aV.out #[af ae 0,ah ⟨#[]⟩,ag none 0 0,ag none 0 0] 26);have aX:=aa ((aL.refl aV.out D.out).alloc (au #[af ae 0,ah ⟨#[]⟩,ag none 0 0,ag none 0 0] 26));refine(dW h _ aX.out.I g L n (D.out.alloc _) 7 (by omega) (by omega)).mono ?_;rintro e w1 ⟨rfl,O⟩;have J:=aa (B0.out.call O (by omega));have G:=aa (aX.out.call O);have hz:w.heap.size<w1.heap.size:=J.out.has.lt;have⟨⟨am,k1,k2,k3⟩,bH,bI,bJ,bL⟩:=J.out.four;have bq:=jo L n 7 (by omega);generalize a8 L n 7=r at*;have hr:r=0\/r=1\/r=2\/r=3\/r=4\/r=5\/r=6:=by omega
  rcases hr with rfl|rfl|rfl|rfl|rfl|rfl|rfl;·clear O;go_wp2_with fail;refine aF (v:=aq #[af ae 5,ah ⟨#[]⟩,ag none 0 0,ag none 0 0]) (by simp[aH,jH,go_sem,am,k1,k2,k3]) rfl ?_;exact⟨_,rfl,h,.node 5 ⟨#[]⟩ [] [],G.out.aM (kI _) J.out.no _ _ _ _,gJ _ _ (by unfold aG;omega) _,jX (by omega) (by kernel_rfl)⟩
  ·clear O;go_wp2_with fail;refine aF (v:=aq #[af ae 5,ah ⟨#[]⟩,ag none 0 0,ag none 0 0]) (by simp[aH,jH,go_sem,am,k1,k2,k3]) rfl ?_;exact⟨_,rfl,h,.node 5 ⟨#[]⟩ [] [],G.out.aM (kI _) J.out.no _ _ _ _,gJ _ _ (by unfold aG;omega) _,jX (by omega) (by kernel_rfl)⟩
  ·clear O;go_wp2_with fail;refine aF (v:=aq #[af ae 7,ah ⟨#[]⟩,ag none 0 0,ag none 0 0]) (by simp[aH,jH,go_sem,am,k1,k2,k3]) rfl ?_;exact⟨_,rfl,h,.node 7 ⟨#[]⟩ [] [],G.out.aM (kI _) J.out.no _ _ _ _,gJ _ _ (by unfold aG;omega) _,jX (by omega) (by kernel_rfl)⟩
  ·clear O;go_wp2_with fail;refine aF (v:=aq #[af ae 6,ah ⟨#[]⟩,ag none 0 0,ag none 0 0]) (by simp[aH,jH,go_sem,am,k1,k2,k3]) rfl ?_;exact⟨_,rfl,h,.node 6 ⟨#[]⟩ [] [],G.out.aM (kI _) J.out.no _ _ _ _,gJ _ _ (by unfold aG;omega) _,jX (by omega) (by kernel_rfl)⟩
  ·obtain⟨aT,aj⟩:=G.out.bj;have aj:=aa aj;clear O;go_wp2_with fail;refine(jn h _ (G.out.I.alloc _) g L aT (aj.out.alloc _) w1.heap.size 4 4 #[ah ⟨#[84]⟩,ah ⟨#[85]⟩,ah ⟨#[65,46,84]⟩,ah ⟨#[66,46,85]⟩] (Has.new w1 _ _) (by omega) (by omega) (by omega) (fun i aB=>ik [ah ⟨#[84]⟩,ah ⟨#[85]⟩,ah ⟨#[65,46,84]⟩,ah ⟨#[66,46,85]⟩] (r5 9) (by kernel_rfl) i aB)).mono ?_;rintro e w2 ⟨s,rfl,aM,ak⟩;have aM:=aa aM;have ab:=aa ((J.out.alloc _).call ak (by omega));have ax:=aa ((G.out.alloc _).call ak);have a1:w.heap.size<w2.heap.size:=ab.out.has.lt;have⟨⟨aO,aP,aQ,aS⟩,a9,ba,bd,bg⟩:=ab.out.four;clear ak;go_wp2_with fail;refine aF (v:=aq #[af ae 9,ah s,ag none 0 0,ag none 0 0]) (by simp[aH,jH,go_sem,aO,aP,aQ,aS]) rfl ?_;exact⟨_,rfl,h,.node 9 s [] [],ax.out.aM (kI _) ab.out.no _ _ _ _,gJ _ _ (by unfold aG;omega) _,jX (by omega) aM.out⟩
  ·obtain⟨aT,aj⟩:=G.out.bj;have aj:=aa aj;clear O;have bv:((m+1:Nat):Int)-1=(m:Int):=by omega
   have bz:¬((m+1:Nat):Int)<1:=by omega
   have bA:(m:Int)+1-1=(m:Int):=by omega
   go_wp2_with fail;refine(bm.out h _ G.out.I g L aT aj.out (by omega)).mono ?_;rintro e w2 ⟨bE,rfl,h2,Y,ak,aN,a4⟩;obtain⟨al,aZ,aY,ck,ys,rfl,bC,-,-,-,-,-⟩:=aN.open;have ab:=aa (J.out.call ak (by omega));have ax:=aa (G.out.call ak);have a3:=aa aN;have a1:w.heap.size<w2.heap.size:=ab.out.has.lt;have⟨⟨aO,aP,aQ,aS⟩,a9,ba,bd,bg⟩:=ab.out.four;have bG:w.heap.size<w2.heap.size+1:=by omega
   clear ak aN;go_wp2_with fail;refine aF (v:=aq #[af ae 8,ah ⟨#[]⟩,ag none 0 0,ag (some ⟨w2.heap.size,0,none⟩) 1 1]) (by simp[aH,jH,go_sem,aO,aP,aQ,aS,a1]) rfl ?_;have a2:=(ax.out.aM (kI _) ab.out.no (af ae 8) (ah ⟨#[]⟩) (ag none 0 0) (ag (some ⟨w2.heap.size,0,none⟩) 1 1)).lay [af ae Y.kind,ah Y.text,ag al Y.leads.length aZ,ag aY Y.kids.length ck] 26 w2.heap.size (by simp[ef]);have a5:h2.le (h2.add w2.heap.size ([af ae Y.kind,ah Y.text,ag al Y.leads.length aZ,ag aY Y.kids.length ck]:List Value).toArray):=Hp.eG _ ax.out.I.iI;exact⟨_,rfl,_,.node 8 ⟨#[]⟩ [] [Y],a2,jL (jM _ _ _) (aJ.one ((wa a3.out).mono a5)) 1 rfl (by simp) _ (by unfold aG;omega) _,Ah a4⟩
  ·obtain⟨aT,aj⟩:=G.out.bj;have aj:=aa aj;clear O;have bv:((m+1:Nat):Int)-1=(m:Int):=by omega
   have bz:¬((m+1:Nat):Int)<1:=by omega
   have bA:(m:Int)+1-1=(m:Int):=by omega
   go_wp2_with fail;refine(bm.out h _ G.out.I g L aT aj.out (by omega)).mono ?_;rintro e w2 ⟨bE,rfl,h2,Y,ak,aN,a4⟩;obtain⟨al,aZ,aY,ck,ys,rfl,bC,-,-,-,-,-⟩:=aN.open;have ab:=aa (J.out.call ak (by omega));have ax:=aa (G.out.call ak);have a3:=aa aN;have a1:w.heap.size<w2.heap.size:=ab.out.has.lt;have⟨⟨aO,aP,aQ,aS⟩,a9,ba,bd,bg⟩:=ab.out.four;have bG:w.heap.size<w2.heap.size+1:=by omega
   clear ak aN;go_wp2_with fail;refine aF (v:=aq #[af ae 8,ah ⟨#[]⟩,ag none 0 0,ag (some ⟨w2.heap.size,0,none⟩) 1 1]) (by simp[aH,jH,go_sem,aO,aP,aQ,aS,a1]) rfl ?_;have a2:=(ax.out.aM (kI _) ab.out.no (af ae 8) (ah ⟨#[]⟩) (ag none 0 0) (ag (some ⟨w2.heap.size,0,none⟩) 1 1)).lay [af ae Y.kind,ah Y.text,ag al Y.leads.length aZ,ag aY Y.kids.length ck] 26 w2.heap.size (by simp[ef]);have a5:h2.le (h2.add w2.heap.size ([af ae Y.kind,ah Y.text,ag al Y.leads.length aZ,ag aY Y.kids.length ck]:List Value).toArray):=Hp.eG _ ax.out.I.iI;exact⟨_,rfl,_,.node 8 ⟨#[]⟩ [] [Y],a2,jL (jM _ _ _) (aJ.one ((wa a3.out).mono a5)) 1 rfl (by simp) _ (by unfold aG;omega) _,Ah a4⟩
end Go.Proofs.YtdplggpbgommnaaGreatDoor
