/- The law's side: trees that are made, with short leads. -/
import Derived.Test.YtdplggpbgommnaaGreatDoorG19
import Derived.Deep.DrawnRows
open Bool renaming and_eq_true→cy
open Go renaming bodyPost_ret→aF,results→aH
open Go.IntKind renaming i64→ae
open Go.Lib renaming hid→aa
open Go.Obj renaming cells→au
open Go.Proofs.Tryz renaming func120→lB,func160→wg,func162→wi,ntmps120→lC,ntmps160→wh,ntmps162→wj,prog→ai,results120→j1,results169→KJ
open Go.RowKit.Below renaming refl→aD
open Go.Value renaming agg→aq,bool→ay,int→af,pointer→az,slice→ag,string→ah
open Go.Value.slice renaming injEq→bU
open Go.World.grownBy renaming refl→kC
open List renaming getElem_mem→aK,mem_cons→b8
open Nat renaming le_refl→an
open Option.some renaming inj→aU
set_option maxHeartbeats 16000000
set_option maxRecDepth 100000
namespace Go.Proofs.YtdplggpbgommnaaGreatDoor
open Go.RowKit
mutual
def Tree.lb:Tree→Prop
 | .node _ _ l ks=>(l.length≤1000000∧∀s∈l,s.size≤1000)∧l6 ks
def l6:List Tree→Prop
 |[]=>True
 |t::ts=>t.lb∧l6 ts
end
theorem Tree.og(t:Tree):t.lb↔(t.leads.length≤1000000∧∀s∈t.leads,s.size≤1000)∧l6 t.kids:=by cases t;rw[Tree.lb];rfl
theorem sa:∀{ts:List Tree},l6 ts→∀t∈ts,t.lb
 |[],_,t,A=>by cases A
 |u::ts,h,t,A=>by
  rw[l6]at h;rcases b8.1 A with rfl|A;·exact h.1
  ·exact sa h.2 t A
theorem u6:∀{ts:List Tree},(∀t∈ts,t.lb)→l6 ts
 |[],_=>by rw[l6];trivial
 |u::ts,h=>by rw[l6];exact⟨h u List.mem_cons_self,u6 fun t A=>h t (List.mem_cons_of_mem _ A)⟩
theorem Tree.AE(t:Tree):t.ia↔t.text.size≤1000∧ib t.kids:=by cases t;rw[Tree.ia];rfl
theorem AF:∀{ts:List Tree},ib ts→∀t∈ts,t.ia
 |[],_,t,A=>by cases A
 |u::ts,h,t,A=>by
  rw[ib]at h;rcases b8.1 A with rfl|A;·exact h.1
  ·exact AF h.2 t A
theorem u7(k:Int)(n:Nat):∀(ts:List Tree) (j:Nat),fZ k n j ts=true→∀i (A:i<ts.length),jb k n (j+i) ts[i].kind=true∧ep ts[i]=true
 |[],_,_,i,A=>by simp at A
 |t::ts,j,h,0,_=>by rw[fZ,cy,cy]at h;exact⟨h.1,h.2.1⟩
 |t::ts,j,h,i+1,A=>by rw[fZ,cy,cy]at h;have:=u7 k n ts (j+1) h.2.2 i (by simpa using A);rw[show j+1+i=j+(i+1) by omega]at this;exact this
section
variable {t:Tree}
theorem dw.leads(h:dw t):0≤b9 t.kind t.kids.length:=by have:=h.1;rw[r4,cy,decide_eq_true_iff]at this;exact this.1
theorem dw.text(h:dw t):t.text.size≤1000:=((Tree.AE t).1 h.2).1
theorem dw.b4(h:dw t)(i:Nat)(A:i<t.kids.length):dw t.kids[i]:=by have:=h.1;rw[r4,cy,cy]at this;exact⟨(u7 _ _ _ _ this.2.2 i A).2,AF ((Tree.AE t).1 h.2).2 _ (aK A)⟩
theorem dw.jb(h:dw t)(i:Nat)(A:i<t.kids.length):Go.Proofs.YtdplggpbgommnaaGreatDoor.jb t.kind t.kids.length i t.kids[i].kind=true:=by have:=h.1;rw[r4,cy,cy]at this;have:=(u7 _ _ _ _ this.2.2 i A).1;rw[Nat.zero_add]at this;exact this
theorem Tree.lb.b4(h:t.lb)(i:Nat)(A:i<t.kids.length):t.kids[i].lb:=sa ((Tree.og t).1 h).2 _ (aK A)
end
def RT(t:Tree):Prop:=dw t∧t.lb
theorem RT.b4{t:Tree}(h:RT t)(i:Nat)(A:i<t.kids.length):RT t.kids[i]:=⟨h.1.b4 i A,h.2.b4 i A⟩
theorem AG:eZ ai 196 199 2 32 [ah ⟨#[]⟩,ah ⟨#[]⟩]:=
 .mk' (zv:=aq #[ah ⟨#[]⟩,ah ⟨#[]⟩]) Tryz.underlying196 (by kernel_rfl) rfl rfl (by decide) (by decide)
def Sh1(s:ByteArray):Prop:=s.size≤1000
def PcV(xs:List Value):Prop:=∀v∈xs,∃s,v=ah s∧Sh1 s
theorem PcV.nil:PcV []:=fun _ h=>by cases h
theorem PcV.cons{s:ByteArray}{xs:List Value}(E:Sh1 s)(h:PcV xs):PcV (ah s::xs):=fun v A=>by
 rcases b8.1 A with rfl|A;·exact⟨s,rfl,E⟩
 ·exact h v A
theorem PcV.lP{xs A:List Value}(h:PcV xs)(k:PcV A):PcV (xs++A):=fun v E=>(List.mem_append.1 E).elim (h v) (k v)
theorem PcV.one{xs:List Value}(h:PcV xs):∀u∈xs,u.oneCell'=true:=fun u A=>by obtain⟨s,rfl,_⟩:=h u A;rfl
structure bN(h:Hp)(B:Nat)(w0:World)(v0:Value)(n:Nat)(xs:List Value)(v:Value)(w:World):Prop where
 I:ao h w
 own:Ow w h B 199 2 v n xs
 ok:PcV xs
 gr:w0.grownBy w v0.ownBlock
 bk:v.ownBlock=v0.ownBlock∨∃b,v.ownBlock=some b∧w0.heap.size≤b
 base:B≤w0.heap.size
section
variable {h:Hp} {B n n':Nat} {w0 w w1:World} {v0 v v':Value} {xs fF:List Value}
theorem bN.refl(E:ao h w)(o:Ow w h B 199 2 v n xs)(k:PcV xs)(A:B≤w.heap.size):bN h B w v n xs v w:=⟨E,o,k,kC _ _,.inl rfl,A⟩
theorem bN.below(p:bN h B w0 v0 n xs v w)(b:Below w.heap.size w w1):bN h B w0 v0 n xs v w1:=
 ⟨p.I.below b,p.own.same b,p.ok,kc p.gr (row':=none) ⟨b.os,b.tape,b.output,b.size,fun k A _=>b.block k A⟩ (fun k e=>by cases e),p.bk,p.base⟩
theorem bN.alloc(p:bN h B w0 v0 n xs v w)(o:Obj):bN h B w0 v0 n xs v (w.alloc o):=p.below ((aD _ _).alloc (an _) o)
theorem bN.size(p:bN h B w0 v0 n xs v w):w0.heap.size≤w.heap.size:=p.gr.size
theorem bN.st(p:bN h B w0 v0 n xs v w):St B h w h w:=St.dN p.I (Nat.le_trans p.base p.size)
theorem bN.next(p:bN h B w0 v0 n xs v w)(M:ao h w1)(Y:Ow w1 h B 199 2 v' n' (xs++fF))(A:w.grownBy w1 v.ownBlock)(bk:v'.ownBlock=v.ownBlock∨v'.ownBlock=some w.heap.size)(O:PcV fF):bN h B w0 v0 n' (xs++fF) v' w1:=by
 have G:=p.size;refine⟨M,Y,p.ok.lP O,kc p.gr A fun k e=> ?_,?_,p.base⟩
 ·rcases p.bk with q|⟨b,q,E⟩;·exact .inl (by rw[←q,e])
  ·rw[q]at e;obtain rfl:=aU e;exact .inr E
 ·rcases bk with q|q;·rw[q];exact p.bk
  ·exact .inr ⟨_,q,G⟩
theorem bN.call(p:bN h B w0 v0 n xs v w)(q:bN h B w v n' fF v' w1):bN h B w0 v0 n' fF v' w1:=by
 have E:=p.size;refine⟨q.I,q.own,q.ok,kc p.gr q.gr fun k e=> ?_,?_,p.base⟩
 ·rcases p.bk with r|⟨b,r,A⟩;·exact .inl (by rw[←r,e])
  ·rw[r]at e;obtain rfl:=aU e;exact .inr A
 ·rcases q.bk with r|⟨b,r,A⟩;·rw[r];exact p.bk
  ·exact .inr ⟨b,r,by omega⟩
theorem bN.ne(p:bN h B w0 v0 n xs v w){b:Nat}(A:v0.ownBlock≠some b)(E:b<w0.heap.size):v.ownBlock≠some b:=fun e=>by
 rcases p.bk with r|⟨k,r,G⟩;·rw[r]at e;exact A e
 ·rw[r]at e;have:=aU e;omega
end
def e9(h:Hp)(B:Nat)(w:World)(v:Value)(n z:Nat)(e:Ending)(w':World):Prop:=∃v' n' fF,e= .returned v'∧bN h B w v n' fF v' w'∧n'+1≤n+9*z
def HT(h:Hp)(B:Nat)(w:World)(v:Value)(n z:Nat)(e:Ending)(w':World):Prop:=∃v' n' fF,e= .returned v'∧bN h B w v n' fF v' w'∧n'≤n+9*z
theorem ed{h:Hp}{a:Option Addr}{m ad:Nat}{ts:List Tree}{cs:List Value}(s:Sl h (ag a m ad) ts.length 4 cs)(e:aJ (bg h) ts cs)(i:Nat)(aB:i<ts.length):
  ∃b A G M E ck,a=some ⟨b,A,none⟩∧aP h (aq #[af ae ts[i].kind,ah ts[i].text,ag G ts[i].leads.length M,ag E ts[i].kids.length ck]) ts[i]∧
   ∀w,ao h w→w.cell? ⟨b,A+i*4,none⟩=some (af ae ts[i].kind)∧w.cell? ⟨b,A+i*4+1,none⟩=some (ah ts[i].text)∧
   w.cell? ⟨b,A+i*4+2,none⟩=some (ag G ts[i].leads.length M)∧w.cell? ⟨b,A+i*4+3,none⟩=some (ag E ts[i].kids.length ck):=by
 obtain⟨a',aG,ac,h1,h2,Y⟩:=id s;simp only[bU]at ac;obtain⟨rfl,rfl,rfl⟩:=ac;rcases Y with Y|⟨b,A,c,rfl,ak,am⟩;·omega
 ·obtain⟨c4,ab,aj⟩:=e.at 4 bg.len i aB;obtain⟨G,M,E,ck,xs,rfl,aL⟩:=bg.iff.1 ab;refine⟨b,A,G,M,E,ck,rfl,⟨_,rfl,ab⟩,fun w ax=> ?_⟩;have O:∀j,j<4→w.cell? ⟨b,A+(i*4+j),none⟩=[af ae ts[i].kind,ah ts[i].text,ag G ts[i].leads.length M,ag E ts[i].kids.length ck][j]? :=fun j hj=>by rw[pH (ax b c ak),am _ (by omega),aj j hj]
  exact⟨O 0 (by omega),O 1 (by omega),O 2 (by omega),O 3 (by omega)⟩
theorem qk(w:World)(k:Int):Calls ai 160 #[af ae k] w fun e w'=>e= .returned (ay (fj k))∧w=w':=by
 by_cases h1:10≤k
 ·have g1:decide (10≤k)=true:=by simpa using h1
  by_cases h2:k≤22
  ·have G:decide (k≤22)=true:=by simpa using h2
   by_cases E:k=17
   ·have M:(k !=17)=false:=by simp[E]
    have A:Hid (fj k=false):=by unfold Hid fj;rw[E];rfl
    clear E;go_enter wg,wh;go_wp2_with fail;go_ret;exact⟨by rw[A.out];rfl,rfl⟩
   ·have M:(k !=17)=true:=by simp[E]
    have A:Hid (fj k=true):=by unfold Hid fj;rw[g1,G,decide_eq_false E];rfl
    go_enter wg,wh;go_wp2_with fail;go_ret;exact⟨by rw[A.out];rfl,rfl⟩
  ·have G:decide (k≤22)=false:=by simpa using h2
   have A:Hid (fj k=false):=by unfold Hid fj;rw[g1,G];rfl
   go_enter wg,wh;go_wp2_with fail;go_ret;exact⟨by rw[A.out];rfl,rfl⟩
 ·have g1:decide (10≤k)=false:=by simpa using h1
  have A:Hid (fj k=false):=by unfold Hid fj;rw[g1];rfl
  go_enter wg,wh;go_wp2_with fail;go_ret;exact⟨by rw[A.out];rfl,rfl⟩
theorem AH(w:World)(k:Int):Calls ai 162 #[af ae k] w fun e w'=>e= .returned (ay (gI k))∧w=w':=by
 obtain⟨b,G⟩:∃b,fj k=b:=⟨_,rfl⟩
 have M:=aa G;by_cases h1:k=19
 ·have g1:(k !=19)=false:=by simp[h1]
  have A:Hid (gI k=false):=by unfold Hid gI;rw[h1];rfl
  clear h1 G;go_enter wi,wj;go_wp2_with fail;refine(qk _ k).mono ?_;rintro e w' ⟨rfl,rfl⟩;rw[M.out];cases b<;>(go_wp2_with fail;go_ret;exact⟨by rw[A.out];rfl,rfl⟩)
 ·have g1:(k !=19)=true:=by simp[h1]
  by_cases h2:k=20
  ·have O:(k !=20)=false:=by simp[h2]
   have A:Hid (gI k=false):=by unfold Hid gI;rw[h2];rfl
   clear h2 h1 G;go_enter wi,wj;go_wp2_with fail;refine(qk _ k).mono ?_;rintro e w' ⟨rfl,rfl⟩;rw[M.out];cases b<;>(go_wp2_with fail;go_ret;exact⟨by rw[A.out];rfl,rfl⟩)
  ·have O:(k !=20)=true:=by simp[h2]
   by_cases E:k=21
   ·have Y:(k !=21)=false:=by simp[E]
    have A:Hid (gI k=false):=by unfold Hid gI;rw[E];rfl
    clear E h2 h1 G;go_enter wi,wj;go_wp2_with fail;refine(qk _ k).mono ?_;rintro e w' ⟨rfl,rfl⟩;rw[M.out];cases b<;>(go_wp2_with fail;go_ret;exact⟨by rw[A.out];rfl,rfl⟩)
   ·have Y:(k !=21)=true:=by simp[E]
    have A:Hid (gI k=b):=by unfold Hid gI;rw[G,decide_eq_false h1,decide_eq_false h2,decide_eq_false E];simp
    clear h1 h2 E G;go_enter wi,wj;go_wp2_with fail;refine(qk _ k).mono ?_;rintro e w' ⟨rfl,rfl⟩;rw[M.out];cases b<;>(go_wp2_with fail;go_ret;exact⟨by rw[A.out];rfl,rfl⟩)
def lI(m B:Nat):Prop:=∀(h:Hp) (w:World) (_:ao h w) (g:Nat) (L:List Int) (n:Nat) (_:cA h w g L n),
 Calls ai 120 #[az (some ⟨g,0,none⟩),af ae m] w (fQ g L h w (ME B))
theorem sc{m B:Nat}(am:lI m B)(h:Hp)(w:World)(aN:ao h w)(g:Nat)(L:List Int)(n:Nat)(d:cA h w g L n):Calls ai 169 #[az (some ⟨g,0,none⟩),af ae m] w (fQ g L h w (MU (B+1))):=by
 have ax:=aa aN;have D:=aa d;have aQ:=aa am;have aV:=d.lt;clear aN d am;go_enter Tryz.func169,Tryz.ntmps169;go_wp2_with fail;have B0:=aa (Bx.new ax.out #[af ae 0,ah ⟨#[]⟩,ag none 0 0,ag none 0 0] 26);have aB:=aa ((aL.refl ax.out D.out).alloc (au #[af ae 0,ah ⟨#[]⟩,ag none 0 0,ag none 0 0] 26));refine(aQ.out h _ aB.out.I g L n (D.out.alloc _)).mono ?_;rintro e w1 ⟨aY,rfl,h1,A,Y,ad,aj⟩;obtain⟨G,M,E,ck,aZ,rfl,aX,-,-,-,-,-⟩:=ad.open;have O:=aa (B0.out.call Y (by omega));have ac:=aa (aB.out.call Y);have aM:=aa ad;have hz:w.heap.size<w1.heap.size:=O.out.has.lt;have aT:w.heap.size<w1.heap.size+1:=by omega
 have⟨⟨aO,k1,k2,k3⟩,a1,a2,a3,a4⟩:=O.out.four;clear Y ad;go_wp2_with fail;refine(AH _ _).mono ?_;rintro e w2 ⟨rfl,rfl⟩;obtain⟨b,ak⟩:∃b,gI A.kind=b:=⟨_,rfl⟩
 rw[ak];have aP:=aa ak;clear ak;cases b;·go_wp2_with fail;refine aF (v:=aq #[af ae 22,ah ⟨#[]⟩,ag none 0 0,ag (some ⟨w1.heap.size+1,0,none⟩) 1 1]) (by simp[aH,KJ,go_sem,aO,k1,k2,k3,hz,aT]) rfl ?_;have ab:=((ac.out.aM (an _) O.out.no (af ae 22) (ah ⟨#[]⟩) (ag none 0 0) (ag (some ⟨w1.heap.size+1,0,none⟩) 1 1)).alloc (au #[af ae A.kind,ah A.text,ag G A.leads.length M,ag E A.kids.length ck] 26)).lay [af ae A.kind,ah A.text,ag G A.leads.length M,ag E A.kids.length ck] 26 (w1.heap.size+1) (by simp[World.setCell]);have aS:h1.le (h1.add (w1.heap.size+1) ([af ae A.kind,ah A.text,ag G A.leads.length M,ag E A.kids.length ck]:List Value).toArray):=Hp.eG _ (bI ac.out.I _ (by omega));exact⟨_,rfl,_,.node 22 ⟨#[]⟩ [] [A],ab,jL (jM _ _ _) (aJ.one ((dq aM.out).mono aS)) 1 rfl (by simp) _ (by unfold aG;omega) _,Ai aj⟩
 ·go_wp2_with fail;refine aF (v:=aq #[af ae A.kind,ah A.text,ag G A.leads.length M,ag E A.kids.length ck]) (by simp[aH,KJ,go_sem,aO,k1,k2,k3,hz]) rfl ?_;have ab:=(ac.out.aM (an _) O.out.no (af ae A.kind) (ah A.text) (ag G A.leads.length M) (ag E A.kids.length ck)).alloc (au #[af ae A.kind,ah A.text,ag G A.leads.length M,ag E A.kids.length ck] 26);exact⟨_,rfl,h1,A,ab,aM.out,⟨Nat.le_succ_of_le aj.1,aj.2.1,aP.out⟩⟩
theorem HW(k:Int)(w:World):Calls ai 161 #[af ae k] w fun e w'=>e= .returned (ay (jW k))∧w=w':=by
 unfold jW;by_cases h1:5≤k
 ·by_cases h2:k≤9
  all_goals
   go_enter Tryz.func161,Tryz.ntmps161;go_wp2_with fail;go_ret;exact⟨by first|(simp_all;done)|(simp;omega)|(simp_all;omega),rfl⟩
 ·go_enter Tryz.func161,Tryz.ntmps161;go_wp2_with fail;go_ret;exact⟨by first|(simp_all;done)|(simp;omega)|(simp_all;omega),rfl⟩
theorem HX(w:World)(k:Int)(s:ByteArray)(ab Y:Option Addr)(ao E ac ck:Nat)(aM:E≤140737488355328)(i:Nat)(aL:i<E)(A:Int):Calls ai 111 #[aq #[af ae k,ah s,ag ab ao ac,ag Y E ck],af ae i,af ae A] w fun e w'=>e= .returned (ay (jb k E i A))∧Below w.heap.size w w':=by
 have B0:Hid (Below w.heap.size w (w.alloc (.cells #[af ae k,ah s,ag ab ao ac,ag Y E ck] 26))):=(aD _ _).alloc (an _) _;generalize am:jb k E i A=r;have ax:=aa am;clear am;obtain⟨aJ,ad⟩:∃b,fj A=b:=⟨_,rfl⟩
 obtain⟨bt,aj⟩:∃b,jW A=b:=⟨_,rfl⟩
 obtain⟨bu,ak⟩:∃b,gI A=b:=⟨_,rfl⟩
 have G:=aa ad;have M:=aa aj;have O:=aa ak;clear ad aj ak;go_enter Tryz.func111,Tryz.ntmps111
 cases bu<;>go_wp2_with(first
  |(go_at_call 160;refine(qk _ _).mono ?_;rintro e w3 ⟨rfl,rfl⟩;rw[G.out])
  |(go_at_call 161;refine(HW _ _).mono ?_;rintro e w3 ⟨rfl,rfl⟩;rw[M.out])
  |(go_at_call 162;refine(AH _ _).mono ?_;rintro e w3 ⟨rfl,rfl⟩;rw[O.out]))
 all_goals go_ret
 all_goals refine⟨?_,B0.out⟩
 all_goals rw[←ax.out]
 all_goals refine congrArg (fun b=>Ending.returned (ay b)) ?_
 all_goals unfold jb
 all_goals simp only[G.out,M.out,O.out]
 all_goals repeat' split
 all_goals first
  |rfl
  |(simp_all;done)
  |(by_cases aB:A=3<;>(simp_all;done))
  |(have aG:i=0:=(by omega);subst aG;by_cases aB:A=21<;>(simp_all;done))
  |(exfalso;simp_all;omega)
  |(simp_all;omega)
def se(t:Tree)(e:Ending):Prop:=∃b,e= .returned (ay b)∧(b=true→t.kind≠0)
theorem ng(t:Tree):se t (.returned (ay false)):=⟨false,rfl,fun h=>by cases h⟩
theorem HY{k:Int}{n:Nat}(h:¬b9 k n<0):k≠0:=fun e=>by subst e;exact h (by unfold b9;simp)
theorem AJ(m:Nat):∀(t:Tree) (_:t.size≤m) (_:t.kids=[]∧t.text.size≤1000∨dw t) (h:Hp) (w:World) (_:ao h w) (v:Value) (_:aP h v t),Calls ai 67 #[v] w fun e w'=>se t e∧Below w.heap.size w w':=by
 induction m with
 |zero=>intro t cd;have:=t.size_eq;omega
 |succ m a1=>
  intro t bB aQ h w aV v aO;have bG:=aa aO;have ax:=aa aV;have ba:=aa a1;have hz:=Tree.size_eq t;rw[hz]at bB
  have ce:t.text.size≤1000:=by
   rcases aQ with h|h;·exact h.2
   ·exact h.text
  have a8:=aa aQ;obtain⟨G,M,E,ck,ct,rfl,b0,cc,aX,bA,aY,aT⟩:=aO.open;have a4:=aa aY;have a3:=aa aT;clear a1 aO hz aV aY bA aT aQ;go_enter Tryz.func67,Tryz.ntmps67;go_wp2_with fail;refine(tm t.kind t.kids.length aX _).mono ?_;rintro e w1 ⟨rfl,bC⟩;obtain rfl:=bC.symm;have A:Hid (Has (w.alloc (.cells #[af ae t.kind,ah t.text,ag G t.leads.length M,ag E t.kids.length ck] 26)) w.heap.size #[af ae t.kind,ah t.text,ag G t.leads.length M,ag E t.kids.length ck]):=Has.new _ _ _;have B0:Hid (Below w.heap.size w (w.alloc (.cells #[af ae t.kind,ah t.text,ag G t.leads.length M,ag E t.kids.length ck] 26))):=(aD _ _).alloc (an _) _;generalize w.alloc (.cells #[af ae t.kind,ah t.text,ag G t.leads.length M,ag E t.kids.length ck] 26)=w0 at A B0⊢;obtain⟨⟨ac,ad,aj,ak⟩,-⟩:=A.out.four;have bE:=A.out.lt;by_cases aM:b9 t.kind t.kids.length<0;·generalize b9 t.kind t.kids.length=z at aM⊢;go_wp2_with fail;go_ret;exact⟨ng _,B0.out⟩
  ·have bd:=aa (HY aM);have bz:0≤b9 t.kind t.kids.length:=by omega
   generalize b9 t.kind t.kids.length=z at aM bz⊢;go_wp2_with fail;refine(HV _ t.kind t.text (by omega)).mono ?_;rintro e w2 ⟨⟨b,rfl⟩,b2⟩;have ab:=aa (A.out.below b2);have am:=aa (B0.out.trans (b2.mono B0.out.size));clear b2 A B0 ac ad aj ak;obtain⟨⟨ac,ad,aj,ak⟩,-⟩:=ab.out.four;have l2:=ab.out.lt;cases b;·go_wp2_with fail;go_ret;exact⟨ng _,am.out⟩
   ·go_wp2_with fail;go_loopw[2,3,19,20,21,22,23,24,25,26,27,28,29,30,31,32,33,34,35,36,37,38,39,40,41,42,43,44] (fun _ i _ _ _ _ _ _ _ _ _ _ _ _ _ _ _ _ _ _ _ _ _ _ _ _ _ _ wr=>∃(j:Nat),j≤t.kids.length∧i=af ae j∧Has wr w.heap.size #[af ae t.kind,ah t.text,ag G t.leads.length M,ag E t.kids.length ck]∧Below w.heap.size w wr) (fun _ i _ _ _ _ _ _ _ _ _ _ _ _ _ _ _ _ _ _ _ _ _ _ _ _ _ _ _=>t.kids.length-(intOf i).toNat);case atStart=>exact⟨0,Nat.zero_le _,rfl,ab.out,am.out⟩
    case round=>
     obtain⟨j,bZ,rfl,xb,bl⟩:=hrel;clear ac ad aj ak l2 ab am bE;obtain⟨⟨ac,ad,aj,ak⟩,-⟩:=xb.four;have cf:=xb.lt;have bp:=aa xb;have Y:=aa bl;clear xb bl;by_cases hj:j<t.kids.length
     ·obtain⟨b,ch,bI,bL,bH,bJ,rfl,aZ,aL⟩:=ed a4.out a3.out j hj;have a5:=aa aZ;have a2:=aa aL;have ci:(0:Int)≤(j:Int):=by omega
      have cj:(j:Int)<(t.kids.length:Int):=by omega
      have bv:=aa (show t.kids[j].size≤m by have:=dB (aK hj);omega)
      have aN:dw t:=by
       rcases a8.out with h|h;·rw[h.1]at hj;exact absurd hj (by simp)
       ·exact h
      have a9:=aa (aN.b4 j hj);have bg:=aa (aN.jb j hj);clear aN;obtain⟨bN,bO,bR,bS⟩:=aL wr (ax.out.below Y.out);clear aZ aL;go_wp2_with fail
      go_region_law(first
       |(go_simp;go_at_call 111;refine(HX _ _ _ _ _ _ _ _ _ aX j hj _).mono ?_;rintro e w3 ⟨rfl,aG⟩;rw[bg.out];have O:=aa (Y.out.drew.trans (aG.mono Y.out.size));have aB:=aa (bp.out.drew.below aG);have⟨⟨cm,cn,co,cq⟩,_⟩:=aB.out.four;have cg:=aB.out.lt;have⟨bT,bV,bX,bY⟩:=a2.out w3 (ax.out.below O.out);clear aG)
       |(go_simp;go_at_call 67;refine(ba.out _ bv.out (.inr a9.out) h _ (ax.out.below O.out) _ a5.out).mono ?_;rintro e cl ⟨⟨bq,rfl,_⟩,aJ⟩;have aS:=aa (O.out.trans (aJ.mono O.out.size));have bm:=aa (aB.out.below aJ);clear aJ))
      all_goals
       cases bq;·go_wp2_with fail;go_ret;exact⟨ng _,aS.out⟩
       ·go_wp2_with fail;go_roundw;case rel=>exact⟨j+1,by omega,by go_num,bm.out,aS.out⟩
        case measure=>simp[intOf];omega
     ·go_wp2_with fail;go_ret;exact⟨⟨true,rfl,fun _=>bd.out⟩,Y.out⟩
theorem wG(v:Int)(h:Hp)(w:World)(E:ao h w)(g:Nat)(L:List Int)(n:Nat)(d:cA h w g L n)(A:v<1∧(a8 L n 14=0∨a8 L n 14=1∨a8 L n 14=6∨a8 L n 14=7∨a8 L n 14=12∨a8 L n 14=13)∨(∃m:Nat,v=((m+1:Nat):Int))∧(a8 L n 14=0∨a8 L n 14=1)):Calls ai 120 #[az (some ⟨g,0,none⟩),af ae v] w (fQ g L h w (ME (1))):=by
 have ak:=aa E;have D:=aa d;have aP:=d.lt;clear E d;rcases A with⟨aM,A|A|A|A|A|A⟩|⟨⟨m,rfl⟩,A|A⟩
 all_goals
  try have aM:¬((m+1:Nat):Int)<1:=by omega
  have aJ:=aa A;clear A;go_enter lB,lC;go_wp2_with fail;have B0:=aa (Bx.new ak.out #[af ae 0,ah ⟨#[]⟩,ag none 0 0,ag none 0 0] 26);have am:=aa ((aL.refl ak.out D.out).alloc (au #[af ae 0,ah ⟨#[]⟩,ag none 0 0,ag none 0 0] 26));refine(dW h _ am.out.I g L n (D.out.alloc _) 14 (by omega) (by omega)).mono ?_;rintro e w1 ⟨rfl,Y⟩;rw[aJ.out];have ad:=aa (B0.out.call Y (by omega));have ac:=aa (am.out.call Y);obtain⟨aO,M⟩:=ac.out.bj;have M:=aa M;have aQ:w.heap.size<w1.heap.size:=ad.out.has.lt;clear Y;go_wp2_with fail;refine(jn h _ (ac.out.I.alloc _) g L aO (M.out.alloc _) w1.heap.size 3 3 #[ah ⟨#[120]⟩,ah ⟨#[121]⟩,ah ⟨#[122]⟩] (Has.new w1 _ _) (by omega) (by omega) (by omega) (fun i E=>ik [ah ⟨#[120]⟩,ah ⟨#[121]⟩,ah ⟨#[122]⟩] (ka 12) (by kernel_rfl) i E)).mono ?_;rintro e w2 ⟨aB,rfl,O,ab⟩;have O:=aa O;have G:=aa ((ad.out.alloc _).call ab (by omega));have ax:=aa ((ac.out.alloc _).call ab);obtain⟨aT,aj⟩:=ax.out.bj;have aj:=aa aj;have aS:w.heap.size<w2.heap.size:=G.out.has.lt;clear ab;have⟨⟨aN,k1,k2,k3⟩,aV,aX,aY,aZ⟩:=G.out.four;go_wp2_with fail;refine aF (v:=aq #[af ae 12,ah aB,ag none 0 0,ag none 0 0]) (by simp[aH,j1,go_sem,aN,k1,k2,k3]) rfl ?_;exact⟨_,rfl,h,.node 12 aB [] [],ax.out.aM (an _) G.out.no _ _ _ _,gJ _ _ (by unfold aG;omega) _,n9 (by omega) O.out⟩
theorem wH(v:Int)(h:Hp)(w:World)(E:ao h w)(g:Nat)(L:List Int)(n:Nat)(d:cA h w g L n)(A:v<1∧(a8 L n 14=2∨a8 L n 14=8)∨(∃m:Nat,v=((m+1:Nat):Int))∧(a8 L n 14=2)):Calls ai 120 #[az (some ⟨g,0,none⟩),af ae v] w (fQ g L h w (ME (1))):=by
 have ak:=aa E;have D:=aa d;have aP:=d.lt;clear E d;rcases A with⟨aM,A|A⟩|⟨⟨m,rfl⟩,A⟩
 all_goals
  try have aM:¬((m+1:Nat):Int)<1:=by omega
  have aJ:=aa A;clear A;go_enter lB,lC;go_wp2_with fail;have B0:=aa (Bx.new ak.out #[af ae 0,ah ⟨#[]⟩,ag none 0 0,ag none 0 0] 26);have am:=aa ((aL.refl ak.out D.out).alloc (au #[af ae 0,ah ⟨#[]⟩,ag none 0 0,ag none 0 0] 26));refine(dW h _ am.out.I g L n (D.out.alloc _) 14 (by omega) (by omega)).mono ?_;rintro e w1 ⟨rfl,Y⟩;rw[aJ.out];have ad:=aa (B0.out.call Y (by omega));have ac:=aa (am.out.call Y);obtain⟨aO,M⟩:=ac.out.bj;have M:=aa M;have aQ:w.heap.size<w1.heap.size:=ad.out.has.lt;clear Y;go_wp2_with fail;refine(jn h _ (ac.out.I.alloc _) g L aO (M.out.alloc _) w1.heap.size 4 4 #[ah ⟨#[48]⟩,ah ⟨#[49]⟩,ah ⟨#[50]⟩,ah ⟨#[49,48]⟩] (Has.new w1 _ _) (by omega) (by omega) (by omega) (fun i E=>ik [ah ⟨#[48]⟩,ah ⟨#[49]⟩,ah ⟨#[50]⟩,ah ⟨#[49,48]⟩] (ka 10) (by kernel_rfl) i E)).mono ?_;rintro e w2 ⟨aB,rfl,O,ab⟩;have O:=aa O;have G:=aa ((ad.out.alloc _).call ab (by omega));have ax:=aa ((ac.out.alloc _).call ab);obtain⟨aT,aj⟩:=ax.out.bj;have aj:=aa aj;have aS:w.heap.size<w2.heap.size:=G.out.has.lt;clear ab;have⟨⟨aN,k1,k2,k3⟩,aV,aX,aY,aZ⟩:=G.out.four;go_wp2_with fail;refine aF (v:=aq #[af ae 10,ah aB,ag none 0 0,ag none 0 0]) (by simp[aH,j1,go_sem,aN,k1,k2,k3]) rfl ?_;exact⟨_,rfl,h,.node 10 aB [] [],ax.out.aM (an _) G.out.no _ _ _ _,gJ _ _ (by unfold aG;omega) _,n9 (by omega) O.out⟩
theorem wI(v:Int)(h:Hp)(w:World)(E:ao h w)(g:Nat)(L:List Int)(n:Nat)(d:cA h w g L n)(A:v<1∧(a8 L n 14=3∨a8 L n 14=9)∨(∃m:Nat,v=((m+1:Nat):Int))∧(a8 L n 14=3)):Calls ai 120 #[az (some ⟨g,0,none⟩),af ae v] w (fQ g L h w (ME (1))):=by
 have ak:=aa E;have D:=aa d;have aP:=d.lt;clear E d;rcases A with⟨aM,A|A⟩|⟨⟨m,rfl⟩,A⟩
 all_goals
  try have aM:¬((m+1:Nat):Int)<1:=by omega
  have aJ:=aa A;clear A;go_enter lB,lC;go_wp2_with fail;have B0:=aa (Bx.new ak.out #[af ae 0,ah ⟨#[]⟩,ag none 0 0,ag none 0 0] 26);have am:=aa ((aL.refl ak.out D.out).alloc (au #[af ae 0,ah ⟨#[]⟩,ag none 0 0,ag none 0 0] 26));refine(dW h _ am.out.I g L n (D.out.alloc _) 14 (by omega) (by omega)).mono ?_;rintro e w1 ⟨rfl,Y⟩;rw[aJ.out];have ad:=aa (B0.out.call Y (by omega));have ac:=aa (am.out.call Y);obtain⟨aO,M⟩:=ac.out.bj;have M:=aa M;have aQ:w.heap.size<w1.heap.size:=ad.out.has.lt;clear Y;go_wp2_with fail;refine(jn h _ (ac.out.I.alloc _) g L aO (M.out.alloc _) w1.heap.size 3 3 #[ah ⟨#[34,34]⟩,ah ⟨#[34,97,34]⟩,ah ⟨#[34,35,32,98,34]⟩] (Has.new w1 _ _) (by omega) (by omega) (by omega) (fun i E=>ik [ah ⟨#[34,34]⟩,ah ⟨#[34,97,34]⟩,ah ⟨#[34,35,32,98,34]⟩] (ka 11) (by kernel_rfl) i E)).mono ?_;rintro e w2 ⟨aB,rfl,O,ab⟩;have O:=aa O;have G:=aa ((ad.out.alloc _).call ab (by omega));have ax:=aa ((ac.out.alloc _).call ab);obtain⟨aT,aj⟩:=ax.out.bj;have aj:=aa aj;have aS:w.heap.size<w2.heap.size:=G.out.has.lt;clear ab;have⟨⟨aN,k1,k2,k3⟩,aV,aX,aY,aZ⟩:=G.out.four;go_wp2_with fail;refine aF (v:=aq #[af ae 11,ah aB,ag none 0 0,ag none 0 0]) (by simp[aH,j1,go_sem,aN,k1,k2,k3]) rfl ?_;exact⟨_,rfl,h,.node 11 aB [] [],ax.out.aM (an _) G.out.no _ _ _ _,gJ _ _ (by unfold aG;omega) _,n9 (by omega) O.out⟩
theorem wJ(v:Int)(h:Hp)(w:World)(ax:ao h w)(g:Nat)(L:List Int)(n:Nat)(d:cA h w g L n)(A:v<1∧(a8 L n 14=4∨a8 L n 14=10)∨(∃m:Nat,v=((m+1:Nat):Int))∧(a8 L n 14=4)):Calls ai 120 #[az (some ⟨g,0,none⟩),af ae v] w (fQ g L h w (ME (1))):=by
 have aj:=aa ax;have D:=aa d;have aP:=d.lt;clear ax d;rcases A with⟨aM,A|A⟩|⟨⟨m,rfl⟩,A⟩
 all_goals
  try have aM:¬((m+1:Nat):Int)<1:=by omega
  have aJ:=aa A;clear A;go_enter lB,lC;go_wp2_with fail;have B0:=aa (Bx.new aj.out #[af ae 0,ah ⟨#[]⟩,ag none 0 0,ag none 0 0] 26);have ak:=aa ((aL.refl aj.out D.out).alloc (au #[af ae 0,ah ⟨#[]⟩,ag none 0 0,ag none 0 0] 26));refine(dW h _ ak.out.I g L n (D.out.alloc _) 14 (by omega) (by omega)).mono ?_;rintro e w1 ⟨rfl,M⟩;rw[aJ.out];have ac:=aa (B0.out.call M (by omega));have Y:=aa (ak.out.call M);obtain⟨ab,G⟩:=Y.out.bj;have G:=aa G;have aQ:w.heap.size<w1.heap.size:=ac.out.has.lt;clear M;go_wp2_with fail;refine(dW h _ Y.out.I g L ab G.out 2 (by omega) (by omega)).mono ?_;rintro e w2 ⟨rfl,O⟩;have aO:=jo L ab 2 (by omega);generalize a8 L ab 2=aB at*;have E:=aa (ac.out.call O (by omega));have am:=aa (Y.out.call O);obtain⟨aT,ad⟩:=am.out.bj;have ad:=aa ad;have aS:w.heap.size<w2.heap.size:=E.out.has.lt;clear O;have⟨⟨aN,k1,k2,k3⟩,aV,aX,aY,aZ⟩:=E.out.four;go_wp2_with fail;refine aF (v:=aq #[af ae (13+aB),ah ⟨#[]⟩,ag none 0 0,ag none 0 0]) (by simp[aH,j1,go_sem,aN,k1,k2,k3]) rfl ?_;exact⟨_,rfl,h,.node (13+aB) ⟨#[]⟩ [] [],am.out.aM (an _) E.out.no _ _ _ _,gJ _ _ (by unfold aG;omega) _,HF (by omega) (by omega) (by omega)⟩
theorem wK(v:Int)(h:Hp)(w:World)(aJ:ao h w)(g:Nat)(L:List Int)(n:Nat)(d:cA h w g L n)(A:v<1∧(a8 L n 14=5∨a8 L n 14=11)∨(∃m:Nat,v=((m+1:Nat):Int))∧(a8 L n 14=5)):Calls ai 120 #[az (some ⟨g,0,none⟩),af ae v] w (fQ g L h w (ME (1))):=by
 have ax:=aa aJ;have D:=aa d;have aX:=d.lt;clear aJ d;rcases A with⟨aN,A|A⟩|⟨⟨m,rfl⟩,A⟩
 all_goals
  try have aN:¬((m+1:Nat):Int)<1:=by omega
  have aM:=aa A;clear A;go_enter lB,lC;go_wp2_with fail;have B0:=aa (Bx.new ax.out #[af ae 0,ah ⟨#[]⟩,ag none 0 0,ag none 0 0] 26);have aB:=aa ((aL.refl ax.out D.out).alloc (au #[af ae 0,ah ⟨#[]⟩,ag none 0 0,ag none 0 0] 26));refine(dW h _ aB.out.I g L n (D.out.alloc _) 14 (by omega) (by omega)).mono ?_;rintro e w1 ⟨rfl,M⟩;rw[aM.out];have ak:=aa (B0.out.call M (by omega));have Y:=aa (aB.out.call M);obtain⟨ad,G⟩:=Y.out.bj;have G:=aa G;have aY:w.heap.size<w1.heap.size:=ak.out.has.lt;clear M;go_wp2_with fail;refine(dW h _ Y.out.I g L ad G.out 3 (by omega) (by omega)).mono ?_;rintro e w2 ⟨rfl,O⟩;have aV:=jo L ad 3 (by omega);generalize a8 L ad 3=aj at*;have E:=aa (ak.out.call O (by omega));have ab:=aa (Y.out.call O);obtain⟨a1,am⟩:=ab.out.bj;have am:=aa am;have aZ:w.heap.size<w2.heap.size:=E.out.has.lt;clear O;have aO:aj=0∨aj=1∨aj=2:=by omega
  rcases aO with rfl|rfl|rfl;·have⟨⟨ac,k1,k2,k3⟩,aP,aQ,aS,aT⟩:=E.out.four;go_wp2_with fail;refine aF (v:=aq #[af ae 15,ah ⟨#[]⟩,ag none 0 0,ag none 0 0]) (by simp[aH,j1,go_sem,ac,k1,k2,k3]) rfl ?_;exact⟨_,rfl,h,.node 15 ⟨#[]⟩ [] [],ab.out.aM (an _) E.out.no _ _ _ _,gJ _ _ (by unfold aG;omega) _,n9 (by omega) (by kernel_rfl)⟩
  iterate 2
   ·have⟨⟨ac,k1,k2,k3⟩,aP,aQ,aS,aT⟩:=E.out.four;go_wp2_with fail;refine aF (v:=aq #[af ae 10,ah ⟨#[51]⟩,ag none 0 0,ag none 0 0]) (by simp[aH,j1,go_sem,ac,k1,k2,k3]) rfl ?_;exact⟨_,rfl,h,.node 10 ⟨#[51]⟩ [] [],ab.out.aM (an _) E.out.no _ _ _ _,gJ _ _ (by unfold aG;omega) _,n9 (by omega) (by kernel_rfl)⟩
theorem wF:lI 0 1:=by
 intro h w E g L n d;have G:=jo L n 14 (by omega);have A:(a8 L n 14=0∨a8 L n 14=1∨a8 L n 14=6∨a8 L n 14=7∨a8 L n 14=12∨a8 L n 14=13)∨(a8 L n 14=2∨a8 L n 14=8)∨(a8 L n 14=3∨a8 L n 14=9)∨(a8 L n 14=4∨a8 L n 14=10)∨a8 L n 14=5∨a8 L n 14=11:=by omega
 rcases A with A|A|A|A|A;·exact wG 0 h w E g L n d (.inl ⟨by omega,A⟩)
 ·exact wH 0 h w E g L n d (.inl ⟨by omega,A⟩)
 ·exact wI 0 h w E g L n d (.inl ⟨by omega,A⟩)
 ·exact wJ 0 h w E g L n d (.inl ⟨by omega,A⟩)
 ·exact wK 0 h w E g L n d (.inl ⟨by omega,A⟩)
end Go.Proofs.YtdplggpbgommnaaGreatDoor
