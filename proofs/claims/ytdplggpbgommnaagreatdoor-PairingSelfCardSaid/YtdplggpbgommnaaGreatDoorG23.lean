/- What Match returns: it is verified, nothing is cheaper; a tree with itself. -/
import Derived.Test.YtdplggpbgommnaaGreatDoorG22
open Go.IntKind renaming i64→ae
open Go.Lib renaming hid→aa
open Go.Proofs.Tryz renaming prog→ai
open Go.RowKit.Below renaming refl→aD
open Go.Value renaming int→af,slice→ag,string→ah
open List renaming Nodup→ph,getElem?_eq_getElem→aE,getElem_mem→aK,length_cons→bF,mem_append→ev,mem_cons_of_mem→cW,mem_cons_self→eu,mem_cons→b8,mem_filter→lz,mem_map→b6,mem_range→ee,pairwise_cons→fJ,pairwise_iff_getElem→mw,pairwise_map→mo
open List.Pairwise renaming filter→vM,imp_of_mem→pj,imp→pk
open Nat renaming le_refl→an,sub_self→kH,zero_le→aW
open Option.some renaming injEq→aC
set_option maxRecDepth 100000
set_option maxHeartbeats 4000000
namespace Go.Proofs.YtdplggpbgommnaaGreatDoor
open Go.RowKit
section
variable {x y:List aB} {k:Int×Int→List (Int×Int)}
theorem ze(A:WF x)(hy:WF y)(l:List (Int×Int)):KA x y (ff x y (aQ x y l)):=⟨rp A hy l,fun _ E=>xO A hy l E⟩
theorem zf:∀(a b:List Int),a.Pairwise (·<·)→b.Pairwise (·<·)→(a.zip b).Pairwise fun p q=>p.1<q.1∧p.2<q.2
 |[],b,_,_=>by simp
 |u::a,[],_,_=>by simp
 |u::a,v::b,h1,h2=>by rw[fJ]at h1 h2;rw[List.zip_cons_cons,fJ];refine⟨fun r A=> ?_,zf a b h1.2 h2.2⟩;have:=List.of_mem_zip A;exact⟨h1.1 _ this.1,h2.1 _ this.2⟩
theorem zg(E:WF x)(hy:WF y):KA x y (jQ x y):=
 ⟨tY E hy,fun p A=>vM _ (zf _ _ (E.gU p.1.toNat _ (gV A.1 A.2.1)) (hy.gU p.2.toNat _ (gV A.2.2.1 A.2.2.2)))⟩
theorem Ge{p q:Int×Int}(h:q∈kp x y p):(nd x q.1).kind=(nd y q.2).kind:=by unfold kp fA at h;obtain⟨c,_,h⟩:=List.mem_flatMap.1 h;obtain⟨d,A,rfl⟩:=b6.1 h;simpa using(lz.1 A).2
theorem Gf(A:PO x)(E:PO y)(l:List (Int×Int)):cq (pX x y l)=c8 (ff x y (aQ x y l)) x.length (0,0):=by obtain⟨r,h1,h2⟩:=y7 (rp A.wf E.wf l) A.wf E.wf;unfold pX;rw[h1];exact yT (ze A.wf E.wf l) A E h2
theorem Gg(A:PO x)(E:PO y):cq (oW x y)=c8 (jQ x y) x.length (0,0):=by obtain⟨r,h1,h2⟩:=y7 (tY A.wf E.wf) A.wf E.wf;unfold oW;rw[h1];exact yT (zg A.wf E.wf) A E h2
theorem Gh{l:List (Int×Int)}(C:lj x y l):∃r,l=(0,0)::r:=by
 have A:=C.root;cases hl:l with
 |nil=>rw[hl]at A;simp at A
 |cons p r=>
  have G:=C.y9;have M:=C.inr p (by rw[hl];simp);rw[hl]at G A;rcases b8.1 A with A|A;·exact⟨r,by rw[A]⟩
  ·have E:=(fJ.1 G).1 _ A;unfold bZ at M;unfold fV at E;simp only at E;omega
theorem Gi{l:List (Int×Int)}(C:lj x y l):((aQ x y l).getD 0 default).cost=bG (aQ x y l) (0,0):=by obtain⟨r,rfl⟩:=Gh C;rw[aQ,ra];exact(if_pos (show((0:Int),(0:Int))=((hT x y (0,0) (bG (aQ x y r))).a,(hT x y (0,0) (bG (aQ x y r))).b)from rfl)).symm
theorem Gj(A:PO x)(E:PO y)(nx:ct x=true)(O:ct y=true)(G:(nd x 0).kind=(nd y 0).kind){l:List (Int×Int)}(C:lj x y l):dP x y (iO x y l).aR=some (iO x y l).cost:=by unfold iO;simp only;rw[Gf A E,yX (ze A.wf E.wf l) A E (fun p _ q M=>Ge (rm l M)) G,Gi C,zd A E nx O C x.length (0,0) C.root (by simp),aC];have h1:(nd x 0).size=(x.length:Int):=A.wf.kS;have h2:(nd y 0).size=(y.length:Int):=E.wf.kS;simp only;omega
theorem uH{l:List (Int×Int)}(h:c6 l)(A:∀p∈l,bZ x y p):l.length≤x.length∧l.length≤y.length:=by
 constructor
 ·have:=q5 x.length (l.map fun p=>p.1.toNat) (by
   rw[ph,mo];refine pj ?_ h;intro a b E G Y e;have:=A a E;have:=A b G;unfold bZ at*;omega) (by
   intro n M;obtain⟨p,O,rfl⟩:=b6.1 M;have:=A p O;unfold bZ at this;omega)
  simpa using this
 ·have:=q5 y.length (l.map fun p=>p.2.toNat) (by
   rw[ph,mo];refine pj ?_ h;intro a b E G Y e;have:=A a E;have:=A b G;unfold bZ at*;omega) (by
   intro n M;obtain⟨p,O,rfl⟩:=b6.1 M;have:=A p O;unfold bZ at this;omega)
  simpa using this
theorem qe{A:List (Int×Int)}{c:Int}(h:dP x y A=some c):c=x.length+y.length+eO x y A∧c6 A∧∀p∈A,bZ x y p:=by
 obtain⟨h1,h2,E⟩:=tU x y A [] _ c h (by simp[c6]);simp only[List.nil_append]at h2 E;refine⟨h1,h2,fun p O=> ?_⟩;obtain⟨a,b,rfl⟩:=List.append_of_mem O;have G:=E a p b rfl
 have M:0≤p.1∧0≤p.2:=by
  cases a with
  |nil=>have:p=(0,0):=G.2.2.2.2.2.1.2 rfl;subst this;simp
  |cons q a=>have Y:=E [] q (a++p::b) rfl;have:q=(0,0):=Y.2.2.2.2.2.1.2 rfl;subst this;have:=(fJ.1 h2).1 p (by simp);simp only at this;omega
 exact⟨M.1,G.2.2.1,M.2,G.2.2.2.1⟩
theorem uI{A:List (Int×Int)}{c:Int}(h:dP x y A=some c):(x.length:Int)-y.length≤c∧(y.length:Int)-x.length≤c∧0≤c:=by obtain⟨h1,h2,E⟩:=qe h;have:=uH h2 E;have:=qd x y A;omega
theorem Gk(A:PO x)(E:PO y)(G:(nd x 0).kind=(nd y 0).kind):dP x y (dr x y).aR=some (dr x y).cost:=by have h:=yX (zg A.wf E.wf) A E (fun p _ q M=>by simpa using(lz.1 M).2) G;rw[←Gg A E]at h;unfold dr;simp only;rw[h];rfl
theorem zh(G:PO x)(M:PO y)(budget:Int):pU x y (bE x y budget):=by
 unfold bE;by_cases A:(nd x 0).kind=(nd y 0).kind
 ·rw[if_pos A];have Y:pU x y (dr x y):=by have O:=Gk G M A;refine⟨O,?_,fun h=>by simp[dr]at h⟩;have:=uI O;show max _ _≤_;omega
  by_cases E:ct x=true∧ct y=true
  ·rw[if_pos E];cases hc:fB x y budget with
   |none=>exact Y
   |some l=>have C:=Gb G.wf M.wf hc;refine⟨Gj G M E.1 E.2 A C,Int.le_refl _,fun _=>⟨rfl,?_⟩⟩;rw[if_pos A];refine⟨?_,Gd G.wf M.wf E.1 E.2 C,rfl⟩;show(fB x y (aQ x y (cq l)).length).map cq=some ((aQ x y (cq l)).map fun e=>(e.a,e.b));rw[pV,xQ,Ga G.wf M.wf hc,tV];rfl
  ·rw[if_neg E];exact Y
 ·rw[if_neg A];refine⟨rfl,Int.le_refl _,fun _=>⟨rfl,?_⟩⟩;rw[if_neg A];exact⟨rfl,rfl⟩
theorem qf(A:PO x)(E:PO y)(budget:Int):dP x y (bE x y budget).aR=some (bE x y budget).cost:=(zh A E budget).1
theorem uJ(A:PO x)(E:PO y)(nx:ct x=true)(M:ct y=true)(budget:Int)(Y:((x.length*y.length:Nat):Int)≤budget):(bE x y budget).gT=true∧(bE x y budget).a7=(bE x y budget).cost:=by
 unfold bE;by_cases G:(nd x 0).kind=(nd y 0).kind
 ·rw[if_pos G,if_pos ⟨nx,M⟩];have ab:0<x.length*y.length:=Nat.mul_pos A.wf.pos E.wf.pos;cases hc:fB x y budget with
  |some l=>exact⟨rfl,rfl⟩
  |none=>
   exfalso;unfold fB at hc;rw[if_neg (by omega)]at hc;rcases q6 (q7 A.wf E.wf) budget.toNat (budget.toNat+1) [(0,0)] 0 (oS A.wf.pos E.wf.pos) (by simp;omega) (by omega)with⟨r,h1,_,_⟩|⟨_,r,j,h2,O⟩;·rw[hc]at h1;cases h1
   ·have:=h2.len;omega
 ·rw[if_neg G];exact⟨rfl,rfl⟩
theorem zi(A:PO x)(E:PO y)(nx:ct x=true)(O:ct y=true)(budget:Int)(M:((x.length*y.length:Nat):Int)≤budget){G:List (Int×Int)}{c:Int}(h:dP x y G=some c):(bE x y budget).cost≤c:=
 EE A.wf E.wf (zh A E budget) (uJ A E nx O budget M).1 h
end
def dT(n:Nat):List (Int×Int):=(List.range n).map fun(i:Nat)=>((i:Int),(i:Int))
theorem Gl{x:List aB}(E:PO x):dP x x (dT x.length)=some 0:=by
 have ak:=E.wf.pos;have O:c6 (dT x.length):=by unfold c6 dT;rw[mo];exact pk (fun{a b} h=>by simp only;omega) List.pairwise_lt_range
 have ac:∀(l:List Nat),eO x x (l.map fun(i:Nat)=>((i:Int),(i:Int)))= -2*(l.length:Int):=by
  intro l;induction l with
  |nil=>simp[eO]
  |cons a l ad=>rw[List.map_cons,qc,ad,bF];unfold cZ;rw[if_pos rfl];omega
 rw[uE E E O,aC];·unfold dT;rw[ac,List.length_range];omega
 ·intro q G;obtain⟨i,A,rfl⟩:=b6.1 G;have:=ee.1 A;exact⟨⟨by simp,by simp only;omega,by simp,by simp only;omega⟩,rfl⟩
 ·obtain⟨n,Y⟩:∃n,x.length=n+1:=⟨x.length-1,by omega⟩
  rw[Y];unfold dT;rw[List.range_succ_eq_map];rfl
 ·intro q G ab;obtain⟨i,A,rfl⟩:=b6.1 G;have A:=ee.1 A
  have M:0<i:=by
   rcases Nat.eq_zero_or_pos i with rfl|h;·exact absurd rfl ab
   ·exact h
  obtain⟨j,ax,am,ao,aj,_⟩:=E.wf.par i _ (aE A) M;have e:fC x x ((i:Int),(i:Int))=((j:Int),(j:Int)):=by unfold fC;simp only;rw[nL (aE A),aj]
  rw[e];exact b6.2 ⟨j,ee.2 (by omega),rfl⟩
theorem uK{l:List (Int×Int)}(h:c6 l)(E:∀p∈l,0≤p.1∧0≤p.2):∀(i:Nat) (A:i<l.length),(i:Int)≤l[i].1∧(i:Int)≤l[i].2
 |0,A=>by have:=E l[0] (aK A);omega
 |i+1,A=>by have h1:=uK h E i (by omega);have h2:=mw.1 h i (i+1) (by omega) A (by omega);omega
theorem uL{l:List (Int×Int)}{n:Nat}(h:c6 l)(E:∀p∈l,p.1<n∧p.2<n):∀(d i:Nat) (A:i<l.length),d+i+1=l.length→l[i].1+(d:Int)+1≤n∧l[i].2+(d:Int)+1≤n
 |0,i,A,_=>by have:=E l[i] (aK A);omega
 |d+1,i,A,e=>by have h1:=uL h E d (i+1) (by omega) (by omega);have h2:=mw.1 h i (i+1) A (by omega) (by omega);omega
theorem Gm{x:List aB}(E:PO x)(nx:ct x=true)(budget:Int)(Y:((x.length*x.length:Nat):Int)≤budget):(bE x x budget).cost=0∧(bE x x budget).gT=true∧(bE x x budget).aR=dT x.length:=by
 have h1:=zi E E nx nx budget Y (Gl E);have A:=qf E E budget;have h2:=uI A;have ab:(bE x x budget).cost=0:=by omega
 refine⟨ab,(uJ E E nx nx budget Y).1,?_⟩;rw[ab]at A;obtain⟨e,M,G⟩:=qe A;have ao:=qd x x (bE x x budget).aR;have am:=uH M G;have ad:(bE x x budget).aR.length=x.length:=by omega
 apply List.ext_getElem;·rw[ad];simp[dT]
 ·intro i O ak;have g1:=uK M (fun p A=>⟨(G p A).1,(G p A).2.2.1⟩) i O;have aj:=uL (n:=x.length) M (fun p A=>⟨(G p A).2.1,(G p A).2.2.2⟩) (x.length-i-1) i O (by omega);have ac:(dT x.length)[i]=((i:Int),(i:Int)):=by simp[dT]
  rw[ac];exact Prod.ext (by simp only;omega) (by simp only;omega)
theorem uM{t:Tree}(h:t.size≤400):ct (aO t)=true:=by unfold ct;have G:=nJ t;simp only[Bool.and_eq_true,decide_eq_true_eq,List.all_eq_true];refine⟨by omega,fun n E=> ?_⟩;obtain⟨i,A,rfl⟩:=List.mem_iff_getElem.1 E;have:=ty (q4 t) (i:=(i:Int)) (by omega) (by omega);rw[nL (aE A)]at this;omega
theorem rL(t:Tree):(aO t).length=t.size:=nJ t
theorem Gn(a b:Tree)(budget:Int):∀p∈(bE (aO a) (aO b) budget).aR,0≤p.1∧p.1<a.size∧0≤p.2∧p.2<b.size:=fun p A=>by have h:=(qe (qf (kr a) (kr b) budget)).2.2 p A;unfold bZ at h;rw[rL,rL]at h;exact h
theorem Gp(a b:Tree)(budget:Int):0≤(bE (aO a) (aO b) budget).cost:=(uI (qf (kr a) (kr b) budget)).2.2
theorem Gq(a b:Tree)(budget:Int):(bE (aO a) (aO b) budget).cost≤a.size+b.size:=by have h:=(qe (qf (kr a) (kr b) budget)).1;have w:=(qd (aO a) (aO b) (bE (aO a) (aO b) budget).aR).2;rw[rL,rL]at h;omega
theorem Gr(a b:Tree)(budget:Int)(E:a.size≤262144)(G:b.size≤262144):0≤hI budget a b∧hI budget a b≤1048576:=by
 have A:=Gp a b budget;have h1:=Gq a b budget;unfold hI;split
 ·split;·omega
  ·omega
 ·omega
theorem rM{m:Nat}:∀(A:List Tree) (n:Nat) (d:cF),d∈dt m n A→d.J=m∧n≤d.number∧d.number+d.t.size≤n+ax A∧d.t∈A
 |[],n,d,h=>by simp[dt]at h
 |k::A,n,d,h=>by
  rw[dt]at h;rw[gR];rcases b8.1 h with rfl|h;·exact⟨rfl,an _,by simp only;omega,eu⟩
  ·obtain⟨h1,h2,G,E⟩:=rM A (n+k.size) d h;exact⟨h1,by omega,by omega,cW _ E⟩
theorem mT:∀(ts:List Tree) (m:Nat) (d:cF),d∈aj m ts→m≤d.J∧d.J<m+ts.length∧1≤d.number∧d.number+d.t.size≤(ts.getD (d.J-m) default).size∧d.t∈(ts.getD (d.J-m) default).kids
 |[],m,d,h=>by simp[aj]at h
 |t::ts,m,d,h=>by
  rw[aj]at h;rcases ev.1 h with h|h
  ·obtain⟨h1,h2,E,A⟩:=rM t.kids 1 d h;have hz:=t.size_eq;subst h1;refine⟨an _,by simp,h2,?_,?_⟩;·rw[kH];show d.number+d.t.size≤t.size;omega
   ·rw[kH];exact A
  ·obtain⟨h1,h2,E,A,G⟩:=mT ts (m+1) d h;have e:d.J-m=(d.J-(m+1))+1:=by omega
   refine⟨by omega,by simp only[bF];omega,E,?_,?_⟩;·rw[e];exact A
   ·rw[e];exact G
section
variable {ck:Int→ByteArray→List Nat→ByteArray}
mutual
theorem Gs(m:Nat):∀(t:Tree) (n:Nat) (kn:List ByteArray),∀x∈(cS ck m t n kn).1,x.J=m∧n≤x.number∧0<x.size∧x.number+x.size≤n+t.size
 | .node k s ls G,n,kn,x,A=>by
  rw[cS]at A;simp only[Tree.size];rcases b8.1 A with rfl|A;·exact⟨rfl,an _,by simp,by simp only;omega⟩
  ·obtain⟨h1,h2,E,M⟩:=uN m G (n+1) kn x A;exact⟨h1,by omega,E,by omega⟩
theorem uN(m:Nat):∀(ts:List Tree) (n:Nat) (kn:List ByteArray),∀x∈(bz ck m ts n kn).1,x.J=m∧n≤x.number∧0<x.size∧x.number+x.size≤n+ax ts
 |[],n,kn,x,A=>by simp[bz]at A
 |t::ts,n,kn,x,A=>by
  rw[bz]at A;simp only at A;rw[gR];rcases ev.1 A with A|A;·obtain⟨h1,h2,E,G⟩:=Gs m t n kn x A;exact⟨h1,h2,E,by omega⟩
  ·obtain⟨h1,h2,E,G⟩:=uN m ts (n+t.size) _ x A;exact⟨h1,by omega,E,by omega⟩
end
theorem rN(ts:List Tree)(kn:List ByteArray):∀x∈(dk ck (aj 0 ts) kn).1,x.J<ts.length∧0<x.size∧1≤x.number∧x.number+x.size≤(ts.getD x.J default).size:=by
 have ac:∀(ds:List cF),(∀d∈ds,d∈aj 0 ts)→∀(s:List bq×List ByteArray),(∀x∈s.1,x.J<ts.length∧0<x.size∧1≤x.number∧x.number+x.size≤(ts.getD x.J default).size)→
   ∀x∈(ds.foldl (gG ck) s).1,x.J<ts.length∧0<x.size∧1≤x.number∧x.number+x.size≤(ts.getD x.J default).size:=by
  intro ds;induction ds with
  |nil=>intro _ s G;exact G
  |cons d ds ab=>
   intro E s G;rw[List.foldl_cons];refine ab (fun e Y=>E e (cW _ Y)) _ fun x A=> ?_;unfold gG at A;simp only at A;rcases ev.1 A with A|A;·exact G x A
   ·obtain⟨h1,h2,O,ao⟩:=uN d.J d.t.kids (d.number+1) s.2 x A;obtain⟨g1,ad,ak,M,am⟩:=mT ts 0 d (E d eu);have hz:=d.t.size_eq;rw[Nat.sub_zero]at M;rw[h1];exact⟨by omega,O,by omega,by omega⟩
 exact ac _ (fun d E=>E) _ fun x A=>by cases A
end
theorem Jb(m:Nat):∀(t:Tree) (_:t.size≤m) (h:Hp) (w:World) (_:ao h w) (v:Value) (_:aP h v t),Calls ai 84 #[v] w fun e w'=>nS e∧Below w.heap.size w w':=by
 induction m with
 |zero=>intro t bq;have:=t.size_eq;omega
 |succ m aJ=>
  intro t aY h w ak v aB;have ab:=aa ak;have aQ:=aa aJ;have hz:=Tree.size_eq t;rw[hz]at aY;obtain⟨G,M,E,ck,bJ,rfl,bg,bp,bm,am,ax,ad⟩:=aB.open;have aZ:=aa am;have aN:=aa ax;have aM:=aa ad;clear aJ aB hz ak ax am ad;go_enter Tryz.func84,Tryz.ntmps84;have ac:Hid (Has (w.alloc (.cells #[af ae t.kind,ah t.text,ag G t.leads.length M,ag E t.kids.length ck] 26)) w.heap.size #[af ae t.kind,ah t.text,ag G t.leads.length M,ag E t.kids.length ck]):=Has.new _ _ _;have B0:Hid (Below w.heap.size w (w.alloc (.cells #[af ae t.kind,ah t.text,ag G t.leads.length M,ag E t.kids.length ck] 26))):=(aD _ _).alloc (an _) _;generalize t.kind=k at ac B0⊢;go_wp2_with fail;all_goals try subst_vars
  all_goals try(go_ret;exact⟨fW _,B0.out⟩)
  all_goals
   go_loopw[2,4,42,43,44,45,46,47,48,49,50,51,52,53] (fun _ i _ _ _ _ _ _ _ _ _ _ _ _ wr=>∃(j:Nat),j≤t.kids.length∧i=af ae j∧(∃aL,Has wr w.heap.size #[af ae aL,ah t.text,ag G t.leads.length M,ag E t.kids.length ck])∧Below w.heap.size w wr) (fun _ i _ _ _ _ _ _ _ _ _ _ _ _ _=>t.kids.length-(intOf i).toNat);case atStart=>exact⟨0,aW _,rfl,⟨_,ac.out⟩,B0.out⟩
   case round=>
    obtain⟨j,bd,rfl,⟨aL,xb⟩,bl⟩:=hrel;obtain⟨⟨bE,bG,bH,bI⟩,-⟩:=xb.four;have bv:=xb.lt;have aT:=aa xb;have A:=aa bl;clear xb bl;by_cases hj:j<t.kids.length
    ·obtain⟨b,bz,a2,a4,a1,a3,rfl,aG,aj⟩:=ed aN.out aM.out j hj;obtain⟨a5,a8,a9,ba⟩:=aj wr (ab.out.below A.out);have aO:=aa aG;have bA:(0:Int)≤(j:Int):=by omega
     have bB:(j:Int)<(t.kids.length:Int):=by omega
     have aX:=aa (show t.kids[j].size≤m by have:=dB (aK hj);omega);clear aG aj;go_wp2_with fail;refine(aQ.out _ aX.out h _ (ab.out.below A.out) _ aO.out).mono ?_;rintro e bC ⟨⟨aV,rfl⟩,O⟩;have Y:=aa (A.out.trans (O.mono A.out.size));have aS:=aa (aT.out.below O);clear O;cases aV;·go_wp2_with fail;go_ret;exact⟨fW _,Y.out⟩
     ·go_wp2_with fail;go_roundw;case rel=>exact⟨j+1,by omega,by go_num,⟨_,aS.out⟩,Y.out⟩
      case measure=>simp[intOf];omega
    ·go_wp2_with fail;go_ret;exact⟨fW _,A.out⟩
theorem Jc(m:Nat):∀(t:Tree) (_:t.size≤m) (_:t.lb) (h:Hp) (w:World) (_:ao h w) (v:Value) (_:aP h v t),Calls ai 122 #[v] w fun e w'=>nS e∧Below w.heap.size w w':=by
 induction m with
 |zero=>intro t ci;have:=t.size_eq;omega
 |succ m a5=>
  intro t bH aJ h w aY v a3;have aB:=aa aY;have bp:=aa a5;have hz:=Tree.size_eq t;have a8:=aa ((Tree.og t).1 aJ).1.2;have ba:=aa ((Tree.og t).1 aJ).2;clear aJ;rw[hz]at bH;obtain⟨M,Y,G,ck,cj,rfl,cg,ch,bG,a1,a2,aV⟩:=a3.open;have bd:=aa a1;have bg:=aa a2;have a9:=aa aV;clear a5 a3 hz aY a2 a1 aV;go_enter Tryz.func122,Tryz.ntmps122;have ac:Hid (Has (w.alloc (.cells #[af ae t.kind,ah t.text,ag M t.leads.length Y,ag G t.kids.length ck] 26)) w.heap.size #[af ae t.kind,ah t.text,ag M t.leads.length Y,ag G t.kids.length ck]):=Has.new _ _ _;have B0:Hid (Below w.heap.size w (w.alloc (.cells #[af ae t.kind,ah t.text,ag M t.leads.length Y,ag G t.kids.length ck] 26))):=(aD _ _).alloc (an _) _;go_wp2_with fail;generalize w.alloc (.cells #[af ae t.kind,ah t.text,ag M t.leads.length Y,ag G t.kids.length ck] 26)=w0 at ac B0⊢;obtain⟨⟨aj,ax,ak,am⟩,-⟩:=ac.out.four;have bJ:=ac.out.lt
  go_region_held3(fun w'=>w'.cell? ⟨w.heap.size,0,none⟩=some (af ae t.kind)∧w'.cell? ⟨w.heap.size,2,none⟩=some (ag M t.leads.length Y)∧w'.cell? ⟨w.heap.size,3,none⟩=some (ag G t.kids.length ck)) (first|(go_keep;done)|exact⟨aj,ak,am⟩) (first
   |(go_at_call 109;refine(tm t.kind t.kids.length bG _).mono ?_;rintro e w1 ⟨rfl,bI⟩;obtain rfl:=bI.symm))
  all_goals
   have aQ:Hid (Has w0.drew _ _):=ac.out.drew;have aN:Hid (Below w.heap.size w w0.drew):=B0.out.drew;clear ac B0 aj ax ak am bJ;obtain⟨⟨bS,bT,bV,bX⟩,-⟩:=aQ.out.four;generalize b9 t.kind t.kids.length=z;obtain⟨bv,aS⟩:∃b,((t.leads.length:Int)!=z)=b:=⟨_,rfl⟩
   rw[aS];clear aS;cases bv
   ·go_wp2_with fail;go_loopw[2,3,15,16,17,18,19,20,21,22,23,24,25,26,27,28,29,30,31,32,33,34,35] (fun _ i _ _ _ _ _ _ _ _ _ _ _ _ _ _ _ _ _ _ _ _ _ wr=>∃(j:Nat),j≤t.leads.length∧i=af ae j∧(∃E,Has wr w.heap.size #[af ae E,ah t.text,ag M t.leads.length Y,ag G t.kids.length ck])∧Below w.heap.size w wr) (fun _ i _ _ _ _ _ _ _ _ _ _ _ _ _ _ _ _ _ _ _ _ _ _=>t.leads.length-(intOf i).toNat);case atStart=>exact⟨0,aW _,rfl,⟨_,aQ.out⟩,aN.out⟩
    case round=>
     obtain⟨j,bC,rfl,⟨E,xb⟩,bl⟩:=hrel;clear bS bT bV bX;obtain⟨⟨aj,ax,ak,am⟩,-⟩:=xb.four;have bL:=xb.lt;have ab:=aa xb;have A:=aa bl;clear xb bl;by_cases hj:j<t.leads.length
     ·obtain⟨b,bN,rfl,-,aT⟩:=bd.out.cells (aB.out.below A.out) (by omega);have bz:=aT j (ah t.leads[j]) (by simp[hj]);have bO:(0:Int)≤(j:Int):=by omega
      have bR:(j:Int)<(t.leads.length:Int):=by omega
      have aL:=aa (a8.out _ (aK hj));clear aT;by_cases ad:E=1
      ·have bB:(E==1)=true:=by simpa using ad
       by_cases aZ:j=2
       ·have bA:((j:Int)==2)=true:=by simp;omega
        clear ad aZ;go_wp2_with fail
        first
         |go_region_law(first|(go_simp;go_at_call 172;refine(ue _ _ (by have:=aL.out;omega) _).mono ?_;rintro e aM ⟨⟨O,rfl⟩,rfl⟩))
         |fail
        all_goals
         cases O;·go_wp2_with fail;go_ret;exact⟨fW _,A.out.drew⟩
         ·go_wp2_with fail;go_roundw;case rel=>exact⟨j+1,by omega,by go_num,⟨_,ab.out.drew⟩,A.out.drew⟩
          case measure=>simp[intOf];omega
       ·have bA:((j:Int)==2)=false:=by rw[beq_eq_false_iff_ne];omega
        clear ad aZ;go_wp2_with fail
        first
         |go_region_law(first|(go_simp;go_at_call 172;refine(ue _ _ (by have:=aL.out;omega) _).mono ?_;rintro e aM ⟨⟨O,rfl⟩,rfl⟩))
         |fail
        all_goals
         cases O;·go_wp2_with fail;go_ret;exact⟨fW _,A.out.drew⟩
         ·go_wp2_with fail;go_roundw;case rel=>exact⟨j+1,by omega,by go_num,⟨_,ab.out.drew⟩,A.out.drew⟩
          case measure=>simp[intOf];omega
      ·have bB:(E==1)=false:=by simpa using ad
       clear ad;go_wp2_with fail
       first
        |go_region_law(first|(go_simp;go_at_call 172;refine(ue _ _ (by have:=aL.out;omega) _).mono ?_;rintro e aM ⟨⟨O,rfl⟩,rfl⟩))
        |fail
       all_goals
        cases O;·go_wp2_with fail;go_ret;exact⟨fW _,A.out.drew⟩
        ·go_wp2_with fail;go_roundw;case rel=>exact⟨j+1,by omega,by go_num,⟨_,ab.out.drew⟩,A.out.drew⟩
         case measure=>simp[intOf];omega
     ·go_wp2_with fail;go_loopw[2,4,36,37,38,39,40,41,42,43,44,45,46,47,48,49] (fun _ i _ _ _ _ _ _ _ _ _ _ _ _ _ _ wr=>∃(j:Nat),j≤t.kids.length∧i=af ae j∧(∃E,Has wr w.heap.size #[af ae E,ah t.text,ag M t.leads.length Y,ag G t.kids.length ck])∧Below w.heap.size w wr) (fun _ i _ _ _ _ _ _ _ _ _ _ _ _ _ _ _=>t.kids.length-(intOf i).toNat);case atStart=>exact⟨0,aW _,rfl,⟨_,ab.out⟩,A.out⟩
      case round=>
       obtain⟨j,bC,rfl,⟨E,xb⟩,bl⟩:=hrel;clear aj ax ak am;obtain⟨⟨aj,ax,ak,am⟩,-⟩:=xb.four;have bL:=xb.lt;have ab:=aa xb;have A:=aa bl;clear xb bl;by_cases hj:j<t.kids.length
       ·obtain⟨b,bN,bZ,cc,bY,b0,rfl,a4,aX⟩:=ed bg.out a9.out j hj;obtain⟨bz,cd,ce,cf⟩:=aX wr (aB.out.below A.out);have bm:=aa a4;have bO:(0:Int)≤(j:Int):=by omega
        have bR:(j:Int)<(t.kids.length:Int):=by omega
        have bE:=aa (show t.kids[j].size≤m by have:=dB (aK hj);omega);clear a4 aX;go_wp2_with fail;refine(bp.out _ bE.out (sa ba.out _ (aK hj)) h _ (aB.out.below A.out) _ bm.out).mono ?_;rintro e aM ⟨⟨O,rfl⟩,aG⟩;have aO:=aa (A.out.trans (aG.mono A.out.size));have bq:=aa (ab.out.below aG);clear aG;cases O;·go_wp2_with fail;go_ret;exact⟨fW _,aO.out⟩
        ·go_wp2_with fail;go_roundw;case rel=>exact⟨j+1,by omega,by go_num,⟨_,bq.out⟩,aO.out⟩
         case measure=>simp[intOf];omega
       ·go_wp2_with fail;go_ret;exact⟨fW _,A.out⟩
   ·go_wp2_with fail;go_ret;exact⟨fW _,aN.out⟩
def Jd(b:Nat)(e:Ending):Prop:=∃n:Nat,e= .returned (af ae n)∧n≤b
theorem Je(m:Nat)(bB:m≤1000000):∀(t:Tree) (_:t.size≤m) (h:Hp) (w:World) (_:ao h w) (v:Value) (_:aP h v t),Calls ai 85 #[v] w fun e w'=>Jd t.size e∧Below w.heap.size w w':=by
 induction m with
 |zero=>intro t bC;have:=t.size_eq;omega
 |succ m aG=>
  intro t aZ h w aj v am;have Y:=aa aj;have aQ:=aa (aG (by omega));have hz:=Tree.size_eq t;have aO:=aa hz;rw[hz]at aZ;obtain⟨G,M,E,ck,bS,rfl,bq,bz,bv,aY,ak,ac⟩:=am.open;have aM:=aa ak;have aL:=aa ac;clear aG am hz aj ak aY ac;have ab:Hid (Has (w.alloc (.cells #[af ae t.kind,ah t.text,ag G t.leads.length M,ag E t.kids.length ck] 26)) w.heap.size #[af ae t.kind,ah t.text,ag G t.leads.length M,ag E t.kids.length ck]):=Has.new _ _ _;have B0:Hid (Below w.heap.size w (w.alloc (.cells #[af ae t.kind,ah t.text,ag G t.leads.length M,ag E t.kids.length ck] 26))):=(aD _ _).alloc (an _) _;go_enter Tryz.func85,Tryz.ntmps85;go_wp2_with fail;go_loopw[3,4,5,6,7,8,9,10,11,12,13,14,15,16,17,18,19] (fun q i _ _ _ _ _ _ _ _ _ _ _ _ _ _ _ wr=>∃(j d:Nat),j≤t.kids.length∧i=af ae j∧q=af ae d∧d≤ax t.kids∧Has wr w.heap.size #[af ae t.kind,ah t.text,ag G t.leads.length M,ag E t.kids.length ck]∧Below w.heap.size w wr) (fun _ i _ _ _ _ _ _ _ _ _ _ _ _ _ _ _ _=>t.kids.length-(intOf i).toNat);case atStart=>exact⟨0,0,aW _,rfl,rfl,aW _,ab.out,B0.out⟩
  case round=>
   obtain⟨j,d,bm,rfl,rfl,bd,xb,bl⟩:=hrel;clear ab B0;obtain⟨⟨bL,bN,bO,bR⟩,-⟩:=xb.four;have bE:=xb.lt;have aT:=aa xb;have A:=aa bl;clear xb bl;by_cases hj:j<t.kids.length
   ·obtain⟨b,bG,a2,a4,a1,a3,rfl,aB,ad⟩:=ed aM.out aL.out j hj;obtain⟨a5,a8,a9,ba⟩:=ad wr (Y.out.below A.out);have aN:=aa aB;have bH:(0:Int)≤(j:Int):=by omega
    have bI:(j:Int)<(t.kids.length:Int):=by omega
    have bp:=dB (aK hj);have aX:=aa (show t.kids[j].size≤m by omega);clear aB ad;go_wp2_with fail;refine(aQ.out _ aX.out h _ (Y.out.below A.out) _ aN.out).mono ?_;rintro e bJ ⟨⟨aV,rfl,bg⟩,O⟩;have aJ:=aa (A.out.trans (O.mono A.out.size));have aS:=aa (aT.out.below O);clear O;go_wp2_with fail
    all_goals
     go_roundw;case rel=>exact⟨j+1,max d aV,by omega,by go_num,by go_num,by omega,aS.out,aJ.out⟩
     case measure=>simp[intOf];omega
   ·have q1:ae.wrap ((d:Int)+1)=((d+1:Nat):Int):=by rw[bA (by omega)];omega
    go_wp2_with fail;go_ret;exact⟨⟨d+1,rfl,by rw[aO.out];omega⟩,A.out⟩
theorem Ba(t:Tree)(aB:t.kids=[]∧t.text.size≤1000∨dw t)(A:t.lb)(h:Hp)(w:World)(ax:ao h w)(v:Value)(ab:aP h v t):Calls ai 83 #[v] w fun e w'=>se t e∧Below w.heap.size w w':=by
 have ad:=aa ax;have aL:=aa aB;have aG:=aa A;obtain⟨O,Y,M,ck,a2,rfl,aQ,aT,aS,aN,aO,aM⟩:=ab.open;have aj:=aa ab;clear ax aB A aN aO aM ab;have ak:Hid (Has (w.alloc (.cells #[af ae t.kind,ah t.text,ag O t.leads.length Y,ag M t.kids.length ck] 26)) w.heap.size #[af ae t.kind,ah t.text,ag O t.leads.length Y,ag M t.kids.length ck]):=Has.new _ _ _;have B0:Hid (Below w.heap.size w (w.alloc (.cells #[af ae t.kind,ah t.text,ag O t.leads.length Y,ag M t.kids.length ck] 26))):=(aD _ _).alloc (an _) _;go_enter Tryz.func83,Tryz.ntmps83;go_wp2_with fail;refine(AJ _ t (an _) aL.out h _ (ad.out.alloc _) _ aj.out).mono ?_;rintro e w2 ⟨⟨b,rfl,A⟩,b2⟩;have aJ:=aa A;have E:=aa (B0.out.trans (b2.mono B0.out.size));have G:=ak.out.below b2;obtain⟨⟨aX,aY,aZ,a1⟩,-⟩:=G.four;have aV:=G.lt;clear b2 ak B0 G A;cases b;·go_wp2_with fail;go_ret;exact⟨ng _,E.out⟩
 ·go_wp2_with fail;refine(Jc _ t (an _) aG.out h _ (ad.out.below E.out) _ aj.out).mono ?_;rintro e w3 ⟨⟨b3,rfl⟩,am⟩;have ac:=aa (E.out.trans (am.mono E.out.size));clear am;cases b3;·go_wp2_with fail;go_ret;exact⟨ng _,ac.out⟩
  ·go_wp2_with fail;go_ret;exact⟨⟨true,rfl,fun _=>aJ.out (by trivial)⟩,ac.out⟩
end Go.Proofs.YtdplggpbgommnaaGreatDoor
