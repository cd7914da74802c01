/- The law's side: trees that are made, with short leads. -/
import Derived.Test.YtdplggpbgommnaaGreatDoorG20
import Derived.Deep.DrawnRows
open Bool renaming and_eq_true->cy
open Go renaming bodyPost_ret->aF,results->aH
open Go.IntKind renaming i64->ae
open Go.Lib renaming hid->aa
open Go.Obj renaming cells->au
open Go.Proofs.Tryz renaming prog->ai,results120->j1,results169->KJ
open Go.RowKit.Below renaming refl->aD
open Go.Value renaming agg->aq,bool->ay,int->af,pointer->az,slice->ag,string->ah
open Go.Value.slice renaming injEq->bU
open Go.World.grownBy renaming refl->kC
open List renaming getElem_mem->aK,mem_cons->b8
open Nat renaming le_refl->kI
open Option.some renaming inj->aU
set_option maxHeartbeats 16000000
set_option maxRecDepth 100000
namespace Go.Proofs.YtdplggpbgommnaaGreatDoor
open Go.RowKit
mutual
def Tree.lb:Tree->Prop
 | .node _ _ l ks=>(l.length<=1000000/\∀s∈l,s.size<=1000)/\l6 ks
def l6:List Tree->Prop
 |[]=>True
 |t::ts=>t.lb/\l6 ts
end
theorem Tree.og(t:Tree):t.lb↔(t.leads.length<=1000000/\∀s∈t.leads,s.size<=1000)/\l6 t.kids:=by cases t;rw[Tree.lb];rfl
theorem sa:∀{ts:List Tree},l6 ts->∀t∈ts,t.lb
 |[],_,t,G=>by cases G
 |u::ts,h,t,G=>by
  rw[l6]at h;rcases b8.1 G with rfl|G;·exact h.1
  ·exact sa h.2 t G
theorem u6:∀{ts:List Tree},(∀t∈ts,t.lb)->l6 ts
 |[],_=>by rw[l6];trivial
 |u::ts,h=>by rw[l6];exact⟨h u List.mem_cons_self,u6 fun t G=>h t (List.mem_cons_of_mem _ G)⟩
theorem Tree.AE(t:Tree):t.ia↔t.text.size<=1000/\ib t.kids:=by cases t;rw[Tree.ia];rfl
theorem AF:∀{ts:List Tree},ib ts->∀t∈ts,t.ia
 |[],_,t,G=>by cases G
 |u::ts,h,t,G=>by
  rw[ib]at h;rcases b8.1 G with rfl|G;·exact h.1
  ·exact AF h.2 t G
theorem u7(k:Int)(n:Nat):∀(ts:List Tree) (j:Nat),fZ k n j ts=true->∀i (G:i<ts.length),jb k n (j+i) ts[i].kind=true/\ep ts[i]=true
 |[],_,_,i,G=>by simp at G
 |t::ts,j,h,0,_=>by rw[fZ,cy,cy]at h;exact⟨h.1,h.2.1⟩
 |t::ts,j,h,i+1,G=>by rw[fZ,cy,cy]at h;have:=u7 k n ts (j+1) h.2.2 i (by simpa using G);rw[show j+1+i=j+(i+1) by omega]at this;exact this
section
variable {t:Tree}
theorem dw.leads(h:dw t):0<=b9 t.kind t.kids.length:=by have:=h.1;rw[r4,cy,decide_eq_true_iff]at this;exact this.1
theorem dw.text(h:dw t):t.text.size<=1000:=((Tree.AE t).1 h.2).1
theorem dw.b4(h:dw t)(i:Nat)(G:i<t.kids.length):dw t.kids[i]:=by have:=h.1;rw[r4,cy,cy]at this;exact⟨(u7 _ _ _ _ this.2.2 i G).2,AF ((Tree.AE t).1 h.2).2 _ (aK G)⟩
theorem dw.jb(h:dw t)(i:Nat)(G:i<t.kids.length):Go.Proofs.YtdplggpbgommnaaGreatDoor.jb t.kind t.kids.length i t.kids[i].kind=true:=by have:=h.1;rw[r4,cy,cy]at this;have:=(u7 _ _ _ _ this.2.2 i G).1;rw[Nat.zero_add]at this;exact this
theorem Tree.lb.b4(h:t.lb)(i:Nat)(G:i<t.kids.length):t.kids[i].lb:=sa ((Tree.og t).1 h).2 _ (aK G)
end
def RT(t:Tree):Prop:=dw t/\t.lb
theorem RT.b4{t:Tree}(h:RT t)(i:Nat)(G:i<t.kids.length):RT t.kids[i]:=⟨h.1.b4 i G,h.2.b4 i G⟩
theorem AG:eZ ai 196 199 2 32 [ah ⟨#[]⟩,ah ⟨#[]⟩]:=
 .mk' (zv:=aq #[ah ⟨#[]⟩,ah ⟨#[]⟩]) Tryz.underlying196 (by kernel_rfl) rfl rfl (by decide) (by decide)
def Sh1(s:ByteArray):Prop:=s.size<=1000
def PcV(xs:List Value):Prop:=∀v∈xs,∃s,v=ah s/\Sh1 s
theorem PcV.nil:PcV []:=fun _ h=>by cases h
theorem PcV.cons{s:ByteArray}{xs:List Value}(hs:Sh1 s)(h:PcV xs):PcV (ah s::xs):=fun v hv=>by
 rcases b8.1 hv with rfl|hv;·exact⟨s,rfl,hs⟩
 ·exact h v hv
theorem PcV.KZ{xs ys:List Value}(h:PcV xs)(k:PcV ys):PcV (xs++ys):=fun v hv=>(List.mem_append.1 hv).elim (h v) (k v)
theorem PcV.one{xs:List Value}(h:PcV xs):∀u∈xs,u.oneCell'=true:=fun u G=>by obtain⟨s,rfl,_⟩:=h u G;rfl
structure bN(h:Hp)(B:Nat)(w0:World)(v0:Value)(n:Nat)(xs:List Value)(v:Value)(w:World):Prop where
 I:ao h w
 own:Ow w h B 199 2 v n xs
 ok:PcV xs
 gr:w0.grownBy w v0.ownBlock
 bk:v.ownBlock=v0.ownBlock\/∃b,v.ownBlock=some b/\w0.heap.size<=b
 base:B<=w0.heap.size
section
variable {h:Hp} {B n n':Nat} {w0 w w1:World} {v0 v v':Value} {xs fF:List Value}
theorem bN.refl(J:ao h w)(o:Ow w h B 199 2 v n xs)(k:PcV xs)(G:B<=w.heap.size):bN h B w v n xs v w:=⟨J,o,k,kC _ _,.inl rfl,G⟩
theorem bN.below(p:bN h B w0 v0 n xs v w)(b:Below w.heap.size w w1):bN h B w0 v0 n xs v w1:=
 ⟨p.I.below b,p.own.same b,p.ok,kc p.gr (row':=none) ⟨b.os,b.tape,b.output,b.size,fun k G _=>b.block k G⟩ (fun k e=>by cases e),p.bk,p.base⟩
theorem bN.alloc(p:bN h B w0 v0 n xs v w)(o:Obj):bN h B w0 v0 n xs v (w.alloc o):=p.below ((aD _ _).alloc (kI _) o)
theorem bN.size(p:bN h B w0 v0 n xs v w):w0.heap.size<=w.heap.size:=p.gr.size
theorem bN.st(p:bN h B w0 v0 n xs v w):St B h w h w:=St.dN p.I (Nat.le_trans p.base p.size)
theorem bN.next(p:bN h B w0 v0 n xs v w)(J:ao h w1)(own:Ow w1 h B 199 2 v' n' (xs++fF))(gr:w.grownBy w1 v.ownBlock)(bk:v'.ownBlock=v.ownBlock\/v'.ownBlock=some w.heap.size)(ok:PcV fF):bN h B w0 v0 n' (xs++fF) v' w1:=by
 have hs:=p.size;refine⟨J,own,p.ok.KZ ok,kc p.gr gr fun k e=> ?_,?_,p.base⟩
 ·rcases p.bk with q|⟨b,q,G⟩;·exact .inl (by rw[<-q,e])
  ·rw[q]at e;obtain rfl:=aU e;exact .inr G
 ·rcases bk with q|q;·rw[q];exact p.bk
  ·exact .inr ⟨_,q,hs⟩
theorem bN.call(p:bN h B w0 v0 n xs v w)(q:bN h B w v n' fF v' w1):bN h B w0 v0 n' fF v' w1:=by
 have hs:=p.size;refine⟨q.I,q.own,q.ok,kc p.gr q.gr fun k e=> ?_,?_,p.base⟩
 ·rcases p.bk with r|⟨b,r,G⟩;·exact .inl (by rw[<-r,e])
  ·rw[r]at e;obtain rfl:=aU e;exact .inr G
 ·rcases q.bk with r|⟨b,r,G⟩;·rw[r];exact p.bk
  ·exact .inr ⟨b,r,by omega⟩
theorem bN.ne(p:bN h B w0 v0 n xs v w){b:Nat}(G:v0.ownBlock≠some b)(J:b<w0.heap.size):v.ownBlock≠some b:=fun e=>by
 rcases p.bk with r|⟨k,r,O⟩;·rw[r]at e;exact G e
 ·rw[r]at e;have:=aU e;omega
end
def e9(h:Hp)(B:Nat)(w:World)(v:Value)(n z:Nat)(e:Ending)(w':World):Prop:=∃v' n' fF,e= .returned v'/\bN h B w v n' fF v' w'/\n'+1<=n+9*z
def HT(h:Hp)(B:Nat)(w:World)(v:Value)(n z:Nat)(e:Ending)(w':World):Prop:=∃v' n' fF,e= .returned v'/\bN h B w v n' fF v' w'/\n'<=n+9*z
theorem ed{h:Hp}{a:Option Addr}{m ab:Nat}{ts:List Tree}{cs:List Value}(s:Sl h (ag a m ab) ts.length 4 cs)(e:aJ (bg h) ts cs)(i:Nat)(ax:i<ts.length):
  ∃b off al J G ck,a=some ⟨b,off,none⟩/\aP h (aq #[af ae ts[i].kind,ah ts[i].text,ag al ts[i].leads.length J,ag G ts[i].kids.length ck]) ts[i]/\
   ∀w,ao h w->w.cell? ⟨b,off+i*4,none⟩=some (af ae ts[i].kind)/\w.cell? ⟨b,off+i*4+1,none⟩=some (ah ts[i].text)/\
   w.cell? ⟨b,off+i*4+2,none⟩=some (ag al ts[i].leads.length J)/\w.cell? ⟨b,off+i*4+3,none⟩=some (ag G ts[i].kids.length ck):=by
 obtain⟨a',aB,he,h1,h2,O⟩:=id s;simp only[bU]at he;obtain⟨rfl,rfl,rfl⟩:=he;rcases O with O|⟨b,off,c,rfl,ak,hc⟩;·omega
 ·obtain⟨c4,Y,aj⟩:=e.at 4 bg.len i ax;obtain⟨al,J,G,ck,xs,rfl,aG⟩:=bg.iff.1 Y;refine⟨b,off,al,J,G,ck,rfl,⟨_,rfl,Y⟩,fun w am=> ?_⟩;have key:∀j,j<4->w.cell? ⟨b,off+(i*4+j),none⟩=[af ae ts[i].kind,ah ts[i].text,ag al ts[i].leads.length J,ag G ts[i].kids.length ck][j]? :=fun j hj=>by rw[pH (am b c ak),hc _ (by omega),aj j hj]
  exact⟨key 0 (by omega),key 1 (by omega),key 2 (by omega),key 3 (by omega)⟩
theorem qk(w:World)(k:Int):Calls ai 160 #[af ae k] w fun e w'=>e= .returned (ay (fj k))/\w=w':=by
 by_cases h1:10<=k
 ·have g1:decide (10<=k)=true:=by simpa using h1
  by_cases h2:k<=22
  ·have g2:decide (k<=22)=true:=by simpa using h2
   by_cases G:k=17
   ·have J:(k !=17)=false:=by simp[G]
    have E:Hid (fj k=false):=by unfold Hid fj;rw[G];rfl
    clear G;go_in;go_wp2_with fail;go_ret;exact⟨by rw[E.out];rfl,rfl⟩
   ·have J:(k !=17)=true:=by simp[G]
    have E:Hid (fj k=true):=by unfold Hid fj;rw[g1,g2,decide_eq_false G];rfl
    go_in;go_wp2_with fail;go_ret;exact⟨by rw[E.out];rfl,rfl⟩
  ·have g2:decide (k<=22)=false:=by simpa using h2
   have E:Hid (fj k=false):=by unfold Hid fj;rw[g1,g2];rfl
   go_in;go_wp2_with fail;go_ret;exact⟨by rw[E.out];rfl,rfl⟩
 ·have g1:decide (10<=k)=false:=by simpa using h1
  have E:Hid (fj k=false):=by unfold Hid fj;rw[g1];rfl
  go_in;go_wp2_with fail;go_ret;exact⟨by rw[E.out];rfl,rfl⟩
theorem AH(w:World)(k:Int):Calls ai 162 #[af ae k] w fun e w'=>e= .returned (ay (gI k))/\w=w':=by
 obtain⟨b,J⟩:∃b,fj k=b:=⟨_,rfl⟩
 have O:=aa J;by_cases h1:k=19
 ·have g1:(k !=19)=false:=by simp[h1]
  have E:Hid (gI k=false):=by unfold Hid gI;rw[h1];rfl
  clear h1 J;go_in;go_wp2_with fail;refine(qk _ k).mono ?_;rintro e w' ⟨rfl,rfl⟩;rw[O.out];cases b<;>(go_wp2_with fail;go_ret;exact⟨by rw[E.out];rfl,rfl⟩)
 ·have g1:(k !=19)=true:=by simp[h1]
  by_cases h2:k=20
  ·have g2:(k !=20)=false:=by simp[h2]
   have E:Hid (gI k=false):=by unfold Hid gI;rw[h2];rfl
   clear h2 h1 J;go_in;go_wp2_with fail;refine(qk _ k).mono ?_;rintro e w' ⟨rfl,rfl⟩;rw[O.out];cases b<;>(go_wp2_with fail;go_ret;exact⟨by rw[E.out];rfl,rfl⟩)
  ·have g2:(k !=20)=true:=by simp[h2]
   by_cases G:k=21
   ·have Y:(k !=21)=false:=by simp[G]
    have E:Hid (gI k=false):=by unfold Hid gI;rw[G];rfl
    clear G h2 h1 J;go_in;go_wp2_with fail;refine(qk _ k).mono ?_;rintro e w' ⟨rfl,rfl⟩;rw[O.out];cases b<;>(go_wp2_with fail;go_ret;exact⟨by rw[E.out];rfl,rfl⟩)
   ·have Y:(k !=21)=true:=by simp[G]
    have E:Hid (gI k=b):=by unfold Hid gI;rw[J,decide_eq_false h1,decide_eq_false h2,decide_eq_false G];simp
    clear h1 h2 G J;go_in;go_wp2_with fail;refine(qk _ k).mono ?_;rintro e w' ⟨rfl,rfl⟩;rw[O.out];cases b<;>(go_wp2_with fail;go_ret;exact⟨by rw[E.out];rfl,rfl⟩)
def lI(m B:Nat):Prop:=∀(h:Hp) (w:World) (_:ao h w) (g:Nat) (L:List Int) (n:Nat) (_:cA h w g L n),
 Calls ai 120 #[az (some ⟨g,0,none⟩),af ae m] w (fQ g L h w (ME B))
theorem Lg{m B:Nat}(E:lI m B)(h:Hp)(w:World)(aP:ao h w)(g:Nat)(L:List Int)(n:Nat)(d:cA h w g L n):Calls ai 169 #[az (some ⟨g,0,none⟩),af ae m] w (fQ g L h w (MU (B+1))):=by
 have aM:=aa aP;have D:=aa d;have aT:=aa E;have aY:=d.lt;clear aP d E;go_in;go_wp2_with fail;have B0:=aa (Bx.new aM.out #[af ae 0,ah ⟨#[]⟩,ag none 0 0,ag none 0 0] 26);have aN:=aa ((aL.refl aM.out D.out).alloc (au #[af ae 0,ah ⟨#[]⟩,ag none 0 0,ag none 0 0] 26));refine(aT.out h _ aN.out.I g L n (D.out.alloc _)).mono ?_;rintro e w1 ⟨a1,rfl,h1,G,ab,am,ax⟩;obtain⟨al,O,J,ck,ys,rfl,aZ,-,-,-,-,-⟩:=am.open;have Y:=aa (B0.out.call ab (by omega));have ak:=aa (aN.out.call ab);have aO:=aa am;have hz:w.heap.size<w1.heap.size:=Y.out.has.lt;have aX:w.heap.size<w1.heap.size+1:=by omega
 have⟨⟨aQ,k1,k2,k3⟩,a2,a3,a4,a5⟩:=Y.out.four;clear ab am;go_wp2_with fail;refine(AH _ _).mono ?_;rintro e w2 ⟨rfl,rfl⟩;obtain⟨b,aB⟩:∃b,gI G.kind=b:=⟨_,rfl⟩
 rw[aB];have aS:=aa aB;clear aB;cases b;·go_wp2_with fail;refine aF (v:=aq #[af ae 22,ah ⟨#[]⟩,ag none 0 0,ag (some ⟨w1.heap.size+1,0,none⟩) 1 1]) (by simp[aH,KJ,go_sem,aQ,k1,k2,k3,hz,aX]) rfl ?_;have aj:=((ak.out.aM (kI _) Y.out.no (af ae 22) (ah ⟨#[]⟩) (ag none 0 0) (ag (some ⟨w1.heap.size+1,0,none⟩) 1 1)).alloc (au #[af ae G.kind,ah G.text,ag al G.leads.length O,ag J G.kids.length ck] 26)).lay [af ae G.kind,ah G.text,ag al G.leads.length O,ag J G.kids.length ck] 26 (w1.heap.size+1) (by simp[World.setCell]);have aV:h1.le (h1.add (w1.heap.size+1) ([af ae G.kind,ah G.text,ag al G.leads.length O,ag J G.kids.length ck]:List Value).toArray):=Hp.eG _ (bI ak.out.I _ (by omega));exact⟨_,rfl,_,.node 22 ⟨#[]⟩ [] [G],aj,jL (jM _ _ _) (aJ.one ((wa aO.out).mono aV)) 1 rfl (by simp) _ (by unfold aG;omega) _,Ai ax⟩
 ·go_wp2_with fail;refine aF (v:=aq #[af ae G.kind,ah G.text,ag al G.leads.length O,ag J G.kids.length ck]) (by simp[aH,KJ,go_sem,aQ,k1,k2,k3,hz]) rfl ?_;have aj:=(ak.out.aM (kI _) Y.out.no (af ae G.kind) (ah G.text) (ag al G.leads.length O) (ag J G.kids.length ck)).alloc (au #[af ae G.kind,ah G.text,ag al G.leads.length O,ag J G.kids.length ck] 26);exact⟨_,rfl,h1,G,aj,aO.out,⟨Nat.le_succ_of_le ax.1,ax.2.1,aS.out⟩⟩
theorem HW(k:Int)(w:World):Calls ai 161 #[af ae k] w fun e w'=>e= .returned (ay (jW k))/\w=w':=by
 unfold jW;by_cases h1:5<=k
 ·by_cases h2:k<=9
  all_goals
   go_in;go_wp2_with fail;go_ret;exact⟨by first|(simp_all;done)|(simp;omega)|(simp_all;omega),rfl⟩
 ·go_in;go_wp2_with fail;go_ret;exact⟨by first|(simp_all;done)|(simp;omega)|(simp_all;omega),rfl⟩
theorem HX(w:World)(k:Int)(s:ByteArray)(al aj:Option Addr)(aB J ak ck:Nat)(hn:J<=140737488355328)(i:Nat)(aM:i<J)(G:Int):Calls ai 111 #[aq #[af ae k,ah s,ag al aB ak,ag aj J ck],af ae i,af ae G] w fun e w'=>e= .returned (ay (jb k J i G))/\Below w.heap.size w w':=by
 have B0:Hid (Below w.heap.size w (w.alloc (.cells #[af ae k,ah s,ag al aB ak,ag aj J ck] 26))):=(aD _ _).alloc (kI _) _;generalize hr:jb k J i G=r;have aG:=aa hr;clear hr;obtain⟨be,am⟩:∃b,fj G=b:=⟨_,rfl⟩
 obtain⟨bt,ao⟩:∃b,jW G=b:=⟨_,rfl⟩
 obtain⟨bu,ax⟩:∃b,gI G=b:=⟨_,rfl⟩
 have O:=aa am;have Y:=aa ao;have ab:=aa ax;clear am ao ax;go_in
 cases bu<;>go_wp2_with(first
  |(go_at_call 160;refine(qk _ _).mono ?_;rintro e w3 ⟨rfl,rfl⟩;rw[O.out])
  |(go_at_call 161;refine(HW _ _).mono ?_;rintro e w3 ⟨rfl,rfl⟩;rw[Y.out])
  |(go_at_call 162;refine(AH _ _).mono ?_;rintro e w3 ⟨rfl,rfl⟩;rw[ab.out]))
 all_goals go_ret
 all_goals refine⟨?_,B0.out⟩
 all_goals rw[<-aG.out]
 all_goals refine congrArg (fun b=>Ending.returned (ay b)) ?_
 all_goals unfold jb
 all_goals simp only[O.out,Y.out,ab.out]
 all_goals repeat' split
 all_goals first
  |rfl
  |(simp_all;done)
  |(by_cases aJ:G=3<;>(simp_all;done))
  |(have aL:i=0:=(by omega);subst aL;by_cases aJ:G=21<;>(simp_all;done))
  |(exfalso;simp_all;omega)
  |(simp_all;omega)
def se(t:Tree)(e:Ending):Prop:=∃b,e= .returned (ay b)/\(b=true->t.kind≠0)
theorem ng(t:Tree):se t (.returned (ay false)):=⟨false,rfl,fun h=>by cases h⟩
theorem HY{k:Int}{n:Nat}(h:¬b9 k n<0):k≠0:=fun e=>by subst e;exact h (by unfold b9;simp)
theorem AJ(m:Nat):∀(t:Tree) (_:t.size<=m) (_:t.kids=[]/\t.text.size<=1000\/dw t) (h:Hp) (w:World) (_:ao h w) (v:Value) (_:aP h v t),Calls ai 67 #[v] w fun e w'=>se t e/\Below w.heap.size w w':=by
 induction m with
 |zero=>intro t hn;have:=t.size_eq;omega
 |succ m a3=>
  intro t bE aV h w aY v aT;have bI:=aa aT;have aJ:=aa aY;have bg:=aa a3;have hz:=Tree.size_eq t;rw[hz]at bE
  have ce:t.text.size<=1000:=by
   rcases aV with h|h;·exact h.2
   ·exact h.text
  have ba:=aa aV;obtain⟨al,O,J,ck,ys,rfl,cc,cd,aZ,bC,a1,he⟩:=aT.open;have a8:=aa a1;have a5:=aa he;clear a3 aT hz aY a1 bC he aV;go_in;go_wp2_with fail;refine(Lq t.kind t.kids.length aZ _).mono ?_;rintro e w1 ⟨rfl,bG⟩;obtain rfl:=bG.symm;have G:Hid (Has (w.alloc (.cells #[af ae t.kind,ah t.text,ag al t.leads.length O,ag J t.kids.length ck] 26)) w.heap.size #[af ae t.kind,ah t.text,ag al t.leads.length O,ag J t.kids.length ck]):=Has.new _ _ _;have B0:Hid (Below w.heap.size w (w.alloc (.cells #[af ae t.kind,ah t.text,ag al t.leads.length O,ag J t.kids.length ck] 26))):=(aD _ _).alloc (kI _) _;generalize w.alloc (.cells #[af ae t.kind,ah t.text,ag al t.leads.length O,ag J t.kids.length ck] 26)=w0 at G B0⊢;obtain⟨⟨ak,am,ax,aB⟩,-⟩:=G.out.four;have bH:=G.out.lt;by_cases aQ:b9 t.kind t.kids.length<0;·generalize b9 t.kind t.kids.length=z at aQ⊢;go_wp2_with fail;go_ret;exact⟨ng _,B0.out⟩
  ·have bm:=aa (HY aQ);have bB:0<=b9 t.kind t.kids.length:=by omega
   generalize b9 t.kind t.kids.length=z at aQ bB⊢;go_wp2_with fail;refine(HV _ t.kind t.text (by omega)).mono ?_;rintro e w2 ⟨⟨b,rfl⟩,b2⟩;have aj:=aa (G.out.below b2);have aG:=aa (B0.out.trans (b2.mono B0.out.size));clear b2 G B0 ak am ax aB;obtain⟨⟨ak,am,ax,aB⟩,-⟩:=aj.out.four;have l2:=aj.out.lt;cases b;·go_wp2_with fail;go_ret;exact⟨ng _,aG.out⟩
   ·go_wp2_with fail;go_loopw[3] (fun i wr=>∃(j:Nat),j<=t.kids.length/\i=af ae j/\Has wr w.heap.size #[af ae t.kind,ah t.text,ag al t.leads.length O,ag J t.kids.length ck]/\Below w.heap.size w wr) (fun i _=>t.kids.length-(intOf i).toNat);case atStart=>exact⟨0,Nat.zero_le _,rfl,aj.out,aG.out⟩
    case round=>
     obtain⟨j,b0,rfl,xb,bl⟩:=hrel;clear ak am ax aB l2 aj aG bH;obtain⟨⟨ak,am,ax,aB⟩,-⟩:=xb.four;have cf:=xb.lt;have bv:=aa xb;have ab:=aa bl;clear xb bl;by_cases hj:j<t.kids.length
     ·obtain⟨b,off,bL,bO,bJ,bN,rfl,a2,aO⟩:=ed a8.out a5.out j hj;have a9:=aa a2;have a4:=aa aO;have ch:(0:Int)<=(j:Int):=by omega
      have ci:(j:Int)<(t.kids.length:Int):=by omega
      have bA:=aa (show t.kids[j].size<=m by have:=dB (aK hj);omega)
      have aS:dw t:=by
       rcases ba.out with h|h;·rw[h.1]at hj;exact absurd hj (by simp)
       ·exact h
      have bd:=aa (aS.b4 j hj);have bp:=aa (aS.jb j hj);clear aS;obtain⟨d0,bR,bS,bT⟩:=aO wr (aJ.out.below ab.out);clear a2 aO;go_wp2_with fail
      go_region_law(first
       |(go_simp;go_at_call 111;refine(HX _ _ _ _ _ _ _ _ _ aZ j hj _).mono ?_;rintro e w3 ⟨rfl,aM⟩;rw[bp.out];have Y:=aa (ab.out.drew.trans (aM.mono ab.out.size));have aL:=aa (bv.out.drew.below aM);have⟨⟨cl,cm,cn,co⟩,_⟩:=aL.out.four;have cg:=aL.out.lt;have⟨bV,bX,bY,bZ⟩:=a4.out w3 (aJ.out.below Y.out);clear aM)
       |(go_simp;go_at_call 67;refine(bg.out _ bA.out (.inr bd.out) h _ (aJ.out.below Y.out) _ a9.out).mono ?_;rintro e cj ⟨⟨bz,rfl,_⟩,aN⟩;have aX:=aa (Y.out.trans (aN.mono Y.out.size));have bq:=aa (aL.out.below aN);clear aN))
      all_goals
       cases bz;·go_wp2_with fail;go_ret;exact⟨ng _,aX.out⟩
       ·go_wp2_with fail;go_roundw;case rel=>exact⟨j+1,by omega,by go_num,bq.out,aX.out⟩
        case measure=>simp[intOf];omega
     ·go_wp2_with fail;go_ret;exact⟨⟨true,rfl,fun _=>bm.out⟩,ab.out⟩
theorem wG(v:Int)(h:Hp)(w:World)(G:ao h w)(g:Nat)(L:List Int)(n:Nat)(d:cA h w g L n)(hr:v<1/\(a8 L n 14=0\/a8 L n 14=1\/a8 L n 14=6\/a8 L n 14=7\/a8 L n 14=12\/a8 L n 14=13)\/(∃m:Nat,v=((m+1:Nat):Int))/\(a8 L n 14=0\/a8 L n 14=1)):Calls ai 120 #[az (some ⟨g,0,none⟩),af ae v] w (fQ g L h w (ME (1))):=by
 have aB:=aa G;have D:=aa d;have aT:=d.lt;clear G d;rcases hr with⟨aP,hr|hr|hr|hr|hr|hr⟩|⟨⟨m,rfl⟩,hr|hr⟩
 all_goals
  try have aP:¬((m+1:Nat):Int)<1:=by omega
  have aO:=aa hr;clear hr;go_in;go_wp2_with fail;have B0:=aa (Bx.new aB.out #[af ae 0,ah ⟨#[]⟩,ag none 0 0,ag none 0 0] 26);have aJ:=aa ((aL.refl aB.out D.out).alloc (au #[af ae 0,ah ⟨#[]⟩,ag none 0 0,ag none 0 0] 26));refine(dW h _ aJ.out.I g L n (D.out.alloc _) 14 (by omega) (by omega)).mono ?_;rintro e w1 ⟨rfl,ab⟩;rw[aO.out];have am:=aa (B0.out.call ab (by omega));have ak:=aa (aJ.out.call ab);obtain⟨aS,O⟩:=ak.out.bj;have O:=aa O;have aV:w.heap.size<w1.heap.size:=am.out.has.lt;clear ab;go_wp2_with fail;refine(jn h _ (ak.out.I.alloc _) g L aS (O.out.alloc _) w1.heap.size 3 3 #[ah ⟨#[120]⟩,ah ⟨#[121]⟩,ah ⟨#[122]⟩] (Has.new w1 _ _) (by omega) (by omega) (by omega) (fun i G=>ik [ah ⟨#[120]⟩,ah ⟨#[121]⟩,ah ⟨#[122]⟩] (ka 12) (by kernel_rfl) i G)).mono ?_;rintro e w2 ⟨aN,rfl,Y,aj⟩;have Y:=aa Y;have J:=aa ((am.out.alloc _).call aj (by omega));have aM:=aa ((ak.out.alloc _).call aj);obtain⟨aY,ax⟩:=aM.out.bj;have ax:=aa ax;have aX:w.heap.size<w2.heap.size:=J.out.has.lt;clear aj;have⟨⟨aQ,k1,k2,k3⟩,aZ,a1,a2,a3⟩:=J.out.four;go_wp2_with fail;refine aF (v:=aq #[af ae 12,ah aN,ag none 0 0,ag none 0 0]) (by simp[aH,j1,go_sem,aQ,k1,k2,k3]) rfl ?_;exact⟨_,rfl,h,.node 12 aN [] [],aM.out.aM (kI _) J.out.no _ _ _ _,gJ _ _ (by unfold aG;omega) _,n9 (by omega) Y.out⟩
theorem wH(v:Int)(h:Hp)(w:World)(G:ao h w)(g:Nat)(L:List Int)(n:Nat)(d:cA h w g L n)(hr:v<1/\(a8 L n 14=2\/a8 L n 14=8)\/(∃m:Nat,v=((m+1:Nat):Int))/\(a8 L n 14=2)):Calls ai 120 #[az (some ⟨g,0,none⟩),af ae v] w (fQ g L h w (ME (1))):=by
 have aB:=aa G;have D:=aa d;have aT:=d.lt;clear G d;rcases hr with⟨aP,hr|hr⟩|⟨⟨m,rfl⟩,hr⟩
 all_goals
  try have aP:¬((m+1:Nat):Int)<1:=by omega
  have aO:=aa hr;clear hr;go_in;go_wp2_with fail;have B0:=aa (Bx.new aB.out #[af ae 0,ah ⟨#[]⟩,ag none 0 0,ag none 0 0] 26);have aJ:=aa ((aL.refl aB.out D.out).alloc (au #[af ae 0,ah ⟨#[]⟩,ag none 0 0,ag none 0 0] 26));refine(dW h _ aJ.out.I g L n (D.out.alloc _) 14 (by omega) (by omega)).mono ?_;rintro e w1 ⟨rfl,ab⟩;rw[aO.out];have am:=aa (B0.out.call ab (by omega));have ak:=aa (aJ.out.call ab);obtain⟨aS,O⟩:=ak.out.bj;have O:=aa O;have aV:w.heap.size<w1.heap.size:=am.out.has.lt;clear ab;go_wp2_with fail;refine(jn h _ (ak.out.I.alloc _) g L aS (O.out.alloc _) w1.heap.size 4 4 #[ah ⟨#[48]⟩,ah ⟨#[49]⟩,ah ⟨#[50]⟩,ah ⟨#[49,48]⟩] (Has.new w1 _ _) (by omega) (by omega) (by omega) (fun i G=>ik [ah ⟨#[48]⟩,ah ⟨#[49]⟩,ah ⟨#[50]⟩,ah ⟨#[49,48]⟩] (ka 10) (by kernel_rfl) i G)).mono ?_;rintro e w2 ⟨aN,rfl,Y,aj⟩;have Y:=aa Y;have J:=aa ((am.out.alloc _).call aj (by omega));have aM:=aa ((ak.out.alloc _).call aj);obtain⟨aY,ax⟩:=aM.out.bj;have ax:=aa ax;have aX:w.heap.size<w2.heap.size:=J.out.has.lt;clear aj;have⟨⟨aQ,k1,k2,k3⟩,aZ,a1,a2,a3⟩:=J.out.four;go_wp2_with fail;refine aF (v:=aq #[af ae 10,ah aN,ag none 0 0,ag none 0 0]) (by simp[aH,j1,go_sem,aQ,k1,k2,k3]) rfl ?_;exact⟨_,rfl,h,.node 10 aN [] [],aM.out.aM (kI _) J.out.no _ _ _ _,gJ _ _ (by unfold aG;omega) _,n9 (by omega) Y.out⟩
theorem wI(v:Int)(h:Hp)(w:World)(G:ao h w)(g:Nat)(L:List Int)(n:Nat)(d:cA h w g L n)(hr:v<1/\(a8 L n 14=3\/a8 L n 14=9)\/(∃m:Nat,v=((m+1:Nat):Int))/\(a8 L n 14=3)):Calls ai 120 #[az (some ⟨g,0,none⟩),af ae v] w (fQ g L h w (ME (1))):=by
 have aB:=aa G;have D:=aa d;have aT:=d.lt;clear G d;rcases hr with⟨aP,hr|hr⟩|⟨⟨m,rfl⟩,hr⟩
 all_goals
  try have aP:¬((m+1:Nat):Int)<1:=by omega
  have aO:=aa hr;clear hr;go_in;go_wp2_with fail;have B0:=aa (Bx.new aB.out #[af ae 0,ah ⟨#[]⟩,ag none 0 0,ag none 0 0] 26);have aJ:=aa ((aL.refl aB.out D.out).alloc (au #[af ae 0,ah ⟨#[]⟩,ag none 0 0,ag none 0 0] 26));refine(dW h _ aJ.out.I g L n (D.out.alloc _) 14 (by omega) (by omega)).mono ?_;rintro e w1 ⟨rfl,ab⟩;rw[aO.out];have am:=aa (B0.out.call ab (by omega));have ak:=aa (aJ.out.call ab);obtain⟨aS,O⟩:=ak.out.bj;have O:=aa O;have aV:w.heap.size<w1.heap.size:=am.out.has.lt;clear ab;go_wp2_with fail;refine(jn h _ (ak.out.I.alloc _) g L aS (O.out.alloc _) w1.heap.size 3 3 #[ah ⟨#[34,34]⟩,ah ⟨#[34,97,34]⟩,ah ⟨#[34,35,32,98,34]⟩] (Has.new w1 _ _) (by omega) (by omega) (by omega) (fun i G=>ik [ah ⟨#[34,34]⟩,ah ⟨#[34,97,34]⟩,ah ⟨#[34,35,32,98,34]⟩] (ka 11) (by kernel_rfl) i G)).mono ?_;rintro e w2 ⟨aN,rfl,Y,aj⟩;have Y:=aa Y;have J:=aa ((am.out.alloc _).call aj (by omega));have aM:=aa ((ak.out.alloc _).call aj);obtain⟨aY,ax⟩:=aM.out.bj;have ax:=aa ax;have aX:w.heap.size<w2.heap.size:=J.out.has.lt;clear aj;have⟨⟨aQ,k1,k2,k3⟩,aZ,a1,a2,a3⟩:=J.out.four;go_wp2_with fail;refine aF (v:=aq #[af ae 11,ah aN,ag none 0 0,ag none 0 0]) (by simp[aH,j1,go_sem,aQ,k1,k2,k3]) rfl ?_;exact⟨_,rfl,h,.node 11 aN [] [],aM.out.aM (kI _) J.out.no _ _ _ _,gJ _ _ (by unfold aG;omega) _,n9 (by omega) Y.out⟩
theorem wJ(v:Int)(h:Hp)(w:World)(aM:ao h w)(g:Nat)(L:List Int)(n:Nat)(d:cA h w g L n)(hr:v<1/\(a8 L n 14=4\/a8 L n 14=10)\/(∃m:Nat,v=((m+1:Nat):Int))/\(a8 L n 14=4)):Calls ai 120 #[az (some ⟨g,0,none⟩),af ae v] w (fQ g L h w (ME (1))):=by
 have ax:=aa aM;have D:=aa d;have aS:=d.lt;clear aM d;rcases hr with⟨aO,hr|hr⟩|⟨⟨m,rfl⟩,hr⟩
 all_goals
  try have aO:¬((m+1:Nat):Int)<1:=by omega
  have aN:=aa hr;clear hr;go_in;go_wp2_with fail;have B0:=aa (Bx.new ax.out #[af ae 0,ah ⟨#[]⟩,ag none 0 0,ag none 0 0] 26);have aB:=aa ((aL.refl ax.out D.out).alloc (au #[af ae 0,ah ⟨#[]⟩,ag none 0 0,ag none 0 0] 26));refine(dW h _ aB.out.I g L n (D.out.alloc _) 14 (by omega) (by omega)).mono ?_;rintro e w1 ⟨rfl,O⟩;rw[aN.out];have ak:=aa (B0.out.call O (by omega));have ab:=aa (aB.out.call O);obtain⟨aj,J⟩:=ab.out.bj;have J:=aa J;have aT:w.heap.size<w1.heap.size:=ak.out.has.lt;clear O;go_wp2_with fail;refine(dW h _ ab.out.I g L aj J.out 2 (by omega) (by omega)).mono ?_;rintro e w2 ⟨rfl,Y⟩;have aQ:=jo L aj 2 (by omega);generalize a8 L aj 2=r2 at*;have G:=aa (ak.out.call Y (by omega));have aJ:=aa (ab.out.call Y);obtain⟨aX,am⟩:=aJ.out.bj;have am:=aa am;have aV:w.heap.size<w2.heap.size:=G.out.has.lt;clear Y;have⟨⟨aP,k1,k2,k3⟩,aY,aZ,a1,a2⟩:=G.out.four;go_wp2_with fail;refine aF (v:=aq #[af ae (13+r2),ah ⟨#[]⟩,ag none 0 0,ag none 0 0]) (by simp[aH,j1,go_sem,aP,k1,k2,k3]) rfl ?_;exact⟨_,rfl,h,.node (13+r2) ⟨#[]⟩ [] [],aJ.out.aM (kI _) G.out.no _ _ _ _,gJ _ _ (by unfold aG;omega) _,HF (by omega) (by omega) (by omega)⟩
theorem wK(v:Int)(h:Hp)(w:World)(aN:ao h w)(g:Nat)(L:List Int)(n:Nat)(d:cA h w g L n)(hr:v<1/\(a8 L n 14=5\/a8 L n 14=11)\/(∃m:Nat,v=((m+1:Nat):Int))/\(a8 L n 14=5)):Calls ai 120 #[az (some ⟨g,0,none⟩),af ae v] w (fQ g L h w (ME (1))):=by
 have aJ:=aa aN;have D:=aa d;have aY:=d.lt;clear aN d;rcases hr with⟨aP,hr|hr⟩|⟨⟨m,rfl⟩,hr⟩
 all_goals
  try have aP:¬((m+1:Nat):Int)<1:=by omega
  have aO:=aa hr;clear hr;go_in;go_wp2_with fail;have B0:=aa (Bx.new aJ.out #[af ae 0,ah ⟨#[]⟩,ag none 0 0,ag none 0 0] 26);have aM:=aa ((aL.refl aJ.out D.out).alloc (au #[af ae 0,ah ⟨#[]⟩,ag none 0 0,ag none 0 0] 26));refine(dW h _ aM.out.I g L n (D.out.alloc _) 14 (by omega) (by omega)).mono ?_;rintro e w1 ⟨rfl,O⟩;rw[aO.out];have ax:=aa (B0.out.call O (by omega));have ab:=aa (aM.out.call O);obtain⟨am,J⟩:=ab.out.bj;have J:=aa J;have aZ:w.heap.size<w1.heap.size:=ax.out.has.lt;clear O;go_wp2_with fail;refine(dW h _ ab.out.I g L am J.out 3 (by omega) (by omega)).mono ?_;rintro e w2 ⟨rfl,Y⟩;have aX:=jo L am 3 (by omega);generalize a8 L am 3=r2 at*;have G:=aa (ax.out.call Y (by omega));have aj:=aa (ab.out.call Y);obtain⟨a2,aB⟩:=aj.out.bj;have aB:=aa aB;have a1:w.heap.size<w2.heap.size:=G.out.has.lt;clear Y;have hc:r2=0\/r2=1\/r2=2:=by omega
  rcases hc with rfl|rfl|rfl;·have⟨⟨ak,k1,k2,k3⟩,aQ,aS,aT,aV⟩:=G.out.four;go_wp2_with fail;refine aF (v:=aq #[af ae 15,ah ⟨#[]⟩,ag none 0 0,ag none 0 0]) (by simp[aH,j1,go_sem,ak,k1,k2,k3]) rfl ?_;exact⟨_,rfl,h,.node 15 ⟨#[]⟩ [] [],aj.out.aM (kI _) G.out.no _ _ _ _,gJ _ _ (by unfold aG;omega) _,n9 (by omega) (by kernel_rfl)⟩
  iterate 2
   ·have⟨⟨ak,k1,k2,k3⟩,aQ,aS,aT,aV⟩:=G.out.four;go_wp2_with fail;refine aF (v:=aq #[af ae 10,ah ⟨#[51]⟩,ag none 0 0,ag none 0 0]) (by simp[aH,j1,go_sem,ak,k1,k2,k3]) rfl ?_;exact⟨_,rfl,h,.node 10 ⟨#[51]⟩ [] [],aj.out.aM (kI _) G.out.no _ _ _ _,gJ _ _ (by unfold aG;omega) _,n9 (by omega) (by kernel_rfl)⟩
theorem wF:lI 0 1:=by
 intro h w G g L n d;have J:=jo L n 14 (by omega);have hr:(a8 L n 14=0\/a8 L n 14=1\/a8 L n 14=6\/a8 L n 14=7\/a8 L n 14=12\/a8 L n 14=13)\/(a8 L n 14=2\/a8 L n 14=8)\/(a8 L n 14=3\/a8 L n 14=9)\/(a8 L n 14=4\/a8 L n 14=10)\/a8 L n 14=5\/a8 L n 14=11:=by omega
 rcases hr with hr|hr|hr|hr|hr;·exact wG 0 h w G g L n d (.inl ⟨by omega,hr⟩)
 ·exact wH 0 h w G g L n d (.inl ⟨by omega,hr⟩)
 ·exact wI 0 h w G g L n d (.inl ⟨by omega,hr⟩)
 ·exact wJ 0 h w G g L n d (.inl ⟨by omega,hr⟩)
 ·exact wK 0 h w G g L n d (.inl ⟨by omega,hr⟩)
end Go.Proofs.YtdplggpbgommnaaGreatDoor
