/- A program in which one definition gets a name that occurs nowhere is paired with itself: in plain words. -/
import Derived.Test.YtdplggpbgommnaaGreatDoorPmv
import Derived.Test.YtdplggpbgommnaaGreatDoorSpl
open Go.Act renaming put→br
open Go.ByteArray renaming toList_eq→eT
open Go.IntKind renaming i64→ae
open Go.Lib renaming hid→aa
open Go.Proofs.Tryz renaming prog→ai
open Go.RowKit.Below renaming refl→aD
open Go.Value renaming int→af,ownBlock→bW,pointer→az,slice→ag,string→ah,tuple→bD
open List renaming ext_getElem→v8,foldl_cons→dK,foldl_nil→fk,getD_eq_getElem?_getD→bb,getElem?_eq_getElem→aE,getElem_cons_succ→dV,getElem_cons_zero→dJ,getElem_map→eU,getElem_mem→aK,getElem_toArray→eV,length_cons→bF,length_singleton→Bt,mem_cons_of_mem→cW,mem_cons_self→eu,mem_map→b6,mem_range→ee,range_succ→dx,range→aw,replicate→aA,setIfInBounds_toArray→bh,set_cons_succ→bf,set_cons_zero→be
open List.Pairwise renaming imp→pk
open Nat renaming eq_zero_or_pos→et,le_refl→an
open Option.some renaming injEq→aC,inj→aU
set_option maxRecDepth 100000
set_option maxHeartbeats 8000000
namespace Go.Proofs.YtdplggpbgommnaaGreatDoor
open Go.RowKit
theorem filter_one(z n:Nat)(hz:z<n):(aw n).filter (fun i=>decide (i=z))=[z]:=by
 induction n with
 |zero=>omega
 |succ n E=>
  rw[dx,List.filter_append];by_cases e:z=n
  ·subst e;have:(aw z).filter (fun i=>decide (i=z))=[]:=by rw[List.filter_eq_nil_iff];intro i A;have:=ee.1 A;simp only[decide_eq_true_eq];omega
   rw[this];simp
  ·rw[E (by omega)];simp[show n≠z by omega]
theorem HZ(n z:Nat)(hz:z<n):dp (cd n fun i=>decide (i≠z))=[z]:=by
 rw[←filter_one z n hz];unfold dp;rw[qh];apply List.filter_congr;intro i A;rw[zr n _ i (ee.1 A)];by_cases e:i=z;·subst e;simp
 ·simp[e]
theorem H0(n z:Nat)(hz:z<n)(cost:Nat→Nat→Int)(drop add:Nat→Int)(a:Nat)(Y:cost z z=1)(ab:drop z=a)(M:add z=a)(ac:mA [[1,(a:Int)],[(a:Int),0]]=[0,1]):eX (cd n fun i=>decide (i≠z)) (cd n fun i=>decide (i≠z)) cost drop add=(cd n fun _=>true,cd n fun _=>true):=by
 unfold eX;simp only[HZ n z hz];have G:gp [z] [z] cost drop add=[[1,(a:Int)],[(a:Int),0]]:=by simp[gp,lG,dx,Y,ab,M]
 rw[G,ac]
 have A:(cd n fun i=>decide (i≠z)).set z (z:Int)=cd n fun _=>true:=by
  apply v8;·simp[cd]
  ·intro i h1 h2;simp only[cd,List.getElem_set,eU,List.getElem_range];by_cases e:z=i;·simp[e]
   ·have E:¬i=z:=fun h=>e h.symm;simp[e,E]
 have O:(fun i=>decide (i≠z))=fun i=> !decide (i=z):=by funext i;simp
 rw[O]at A;simp[nC,oJ,dx,ge,gm,A]
section
variable {ck:Int→ByteArray→List Nat→ByteArray}
end
theorem AK:∀(ts:List Tree) (n:Nat),dC (aN ts) n=dC ts n
 |[],_=>by rw[aN]
 |t::ts,n=>by rw[aN,dC,dC,l3,AK ts]
mutual
theorem AL:∀(t:Tree) (p:Int) (n:Nat),ej t.bare p n=ej t p n
 | .node k s l A,p,n=>by rw[Tree.bare,ej,ej,AK,uT,AM A]
theorem AM:∀(ts:List Tree) (p n:Nat),eJ (aN ts) p n=eJ ts p n
 |[],_,_=>by rw[aN]
 |t::ts,p,n=>by rw[aN,eJ,eJ,AL t,l3,AM ts]
end
theorem H2(t:Tree):aO t.bare=aO t:=AL t _ _
theorem H3{t:Tree}(h:t.size≤400)(budget:Int)(M:160000≤budget):(bE (aO t) (aO t.bare) budget).aR=dT t.size∧(bE (aO t) (aO t.bare) budget).cost=0∧(bE (aO t) (aO t.bare) budget).a7=0:=by
 rw[H2];have E:=nJ t;have O:=Nat.mul_le_mul h h;have G:(((aO t).length*(aO t).length:Nat):Int)≤budget:=by rw[E];omega
 obtain⟨h1,h2,A⟩:=Gm (kr t) (uM h) budget G;rw[E]at A;exact⟨A,h1,by rw[(uJ (kr t) (kr t) (uM h) (uM h) budget G).2];exact h1⟩
theorem H4{x y:List aB}(G:PO x)(ab:PO y)(nx:ct x=true)(aS:ct y=true)(budget:Int)(ax:((x.length*y.length:Nat):Int)≤budget)(aX:y.length=x.length)(aG:(nd x 0).kind=(nd y 0).kind)(aN:(nd x 0).text≠(nd y 0).text)(Y:∀i:Nat,0<i→nd y (i:Int)=nd x (i:Int)):(bE x y budget).aR=dT x.length∧(bE x y budget).cost=1:=by
 have aZ:=G.wf.pos;obtain⟨n,aL⟩:∃n,x.length=n+1:=⟨x.length-1,by omega⟩
 have ao:c6 (dT x.length):=by unfold c6 dT;rw[List.pairwise_map];exact pk (fun{a b} h=>by simp only;omega) List.pairwise_lt_range
 have aO:∀(l:List Nat),(∀i∈l,0<i)→eO x y (l.map fun(i:Nat)=>((i:Int),(i:Int)))= -2*(l.length:Int):=by
  intro l;induction l with
  |nil=>intro _;simp[eO]
  |cons a l aP=>intro h;rw[List.map_cons,qc,aP (fun i A=>h i (cW _ A)),bF];simp only;rw[Y a (h a eu)];unfold cZ;rw[if_pos rfl];omega
 have hid:dT x.length=(0,0)::((aw n).map Nat.succ).map fun(i:Nat)=>((i:Int),(i:Int)):=by rw[aL];unfold dT;rw[List.range_succ_eq_map];rfl
 have ak:dP x y (dT x.length)=some 1:=by
  rw[uE G ab ao,aC];·rw[hid,qc,aO _ (fun i A=>by obtain⟨j,_,rfl⟩:=b6.1 A;omega),List.length_map,List.length_range];unfold cZ;rw[if_neg aN];omega
  ·intro q O;obtain⟨i,A,rfl⟩:=b6.1 O;have:=ee.1 A;refine⟨⟨by simp,by simp only;omega,by simp,by simp only;omega⟩,?_⟩;rcases et i with rfl|h;·exact aG
   ·simp only;rw[Y i h]
  ·rw[hid];rfl
  ·intro q O aM;obtain⟨i,A,rfl⟩:=b6.1 O;have A:=ee.1 A
   have ac:0<i:=by
    rcases et i with rfl|h;·exact absurd rfl aM
    ·exact h
   obtain⟨j,a4,a2,a3,aQ,_⟩:=G.wf.par i _ (aE A) ac;have e:fC x y ((i:Int),(i:Int))=((j:Int),(j:Int)):=by unfold fC;simp only;rw[Y i ac,nL (aE A),aQ]
   rw[e];exact b6.2 ⟨j,ee.2 (by omega),rfl⟩
 have h1:=zi G ab nx aS budget ax ak;have E:=qf G ab budget;obtain⟨e,M,A⟩:=qe E;have a1:=qd x y (bE x y budget).aR;have aY:=uH M A;have aJ:(bE x y budget).aR.length=x.length:=by omega
 have aj:(bE x y budget).aR=dT x.length:=by
  apply v8;·rw[aJ];simp[dT]
  ·intro i ad aV;have g1:=uK M (fun p E=>⟨(A p E).1,(A p E).2.2.1⟩) i ad;have aT:=uL (n:=x.length) M (fun p E=>⟨(A p E).2.1,by have:=(A p E).2.2.2;omega⟩) (x.length-i-1) i ad (by omega);have am:(dT x.length)[i]=((i:Int),(i:Int)):=by simp[dT]
   rw[am];exact Prod.ext (by simp only;omega) (by simp only;omega)
 rw[aj,ak]at E;exact⟨aj,(aU E).symm⟩
theorem H5:∀a:Nat,a<200→mA [[1,((a+1:Nat):Int)],[((a+1:Nat):Int),0]]=[0,1]:=by decide+kernel
theorem H6(a:Nat)(A:0<a)(h:a<200):mA [[1,(a:Int)],[(a:Int),0]]=[0,1]:=by
 obtain⟨b,rfl⟩:∃b,a=b+1:=⟨a-1,by omega⟩
 exact H5 b (by omega)
section
variable {ck:Int→ByteArray→List Nat→ByteArray}
theorem H7{ts:List Tree}(E:rU ts)(hz:∀d∈aj 0 ts,d.t.size≤400):e5 ts (fun _ _=>True) (eD ck 1048576 ts (aN ts))∧(eD ck 1048576 ts (aN ts)).cost=0∧(eD ck 1048576 ts (aN ts)).a7=0:=
 GK E _ (fun d A=>H3 (hz d A) _ (by omega)) (fun kn=>rN (aN ts) kn)
end
def ql:ByteArray:=⟨#[109,111,100,117,108,101,32,77,32,100,101,102,32,102,40,41,58,32,73,110,116,32,61,32,49,32,43,32,50]⟩
theorem Ib:oT ql=([⟨7,⟨#[]⟩,⟨#[109,111,100,117,108,101]⟩⟩,⟨2,⟨#[32]⟩,⟨#[77]⟩⟩,⟨7,⟨#[32]⟩,⟨#[100,101,102]⟩⟩,⟨1,⟨#[32]⟩,⟨#[102]⟩⟩,⟨8,⟨#[]⟩,⟨#[40]⟩⟩,⟨8,⟨#[]⟩,⟨#[41]⟩⟩,⟨8,⟨#[]⟩,⟨#[58]⟩⟩,⟨7,⟨#[32]⟩,⟨#[73,110,116]⟩⟩,⟨8,⟨#[32]⟩,⟨#[61]⟩⟩,⟨5,⟨#[32]⟩,⟨#[49]⟩⟩,⟨8,⟨#[32]⟩,⟨#[43]⟩⟩,⟨5,⟨#[32]⟩,⟨#[50]⟩⟩],⟨#[]⟩,0,0):=by kernel_rfl
theorem Ic:∀i,i<ql.size→bt ql i≠35:=by decide+kernel
def qm:ByteArray:=⟨#[109,111,100,117,108,101,32,78,32,100,101,102,32,103,40,41,58,32,73,110,116,32,61,32,49,32,43,32,50]⟩
theorem Ie:oT qm=([⟨7,⟨#[]⟩,⟨#[109,111,100,117,108,101]⟩⟩,⟨2,⟨#[32]⟩,⟨#[78]⟩⟩,⟨7,⟨#[32]⟩,⟨#[100,101,102]⟩⟩,⟨1,⟨#[32]⟩,⟨#[103]⟩⟩,⟨8,⟨#[]⟩,⟨#[40]⟩⟩,⟨8,⟨#[]⟩,⟨#[41]⟩⟩,⟨8,⟨#[]⟩,⟨#[58]⟩⟩,⟨7,⟨#[32]⟩,⟨#[73,110,116]⟩⟩,⟨8,⟨#[32]⟩,⟨#[61]⟩⟩,⟨5,⟨#[32]⟩,⟨#[49]⟩⟩,⟨8,⟨#[32]⟩,⟨#[43]⟩⟩,⟨5,⟨#[32]⟩,⟨#[50]⟩⟩],⟨#[]⟩,0,0):=by kernel_rfl
theorem Ig:∀i,i<qm.size→bt qm i≠35:=by decide+kernel
def qn:ByteArray:=⟨#[109,111,100,117,108,101,32,77,32,100,101,102,32,103,40,41,58,32,73,110,116,32,61,32,49,32,43,32,50]⟩
theorem Ih:oT qn=([⟨7,⟨#[]⟩,⟨#[109,111,100,117,108,101]⟩⟩,⟨2,⟨#[32]⟩,⟨#[77]⟩⟩,⟨7,⟨#[32]⟩,⟨#[100,101,102]⟩⟩,⟨1,⟨#[32]⟩,⟨#[103]⟩⟩,⟨8,⟨#[]⟩,⟨#[40]⟩⟩,⟨8,⟨#[]⟩,⟨#[41]⟩⟩,⟨8,⟨#[]⟩,⟨#[58]⟩⟩,⟨7,⟨#[32]⟩,⟨#[73,110,116]⟩⟩,⟨8,⟨#[32]⟩,⟨#[61]⟩⟩,⟨5,⟨#[32]⟩,⟨#[49]⟩⟩,⟨8,⟨#[32]⟩,⟨#[43]⟩⟩,⟨5,⟨#[32]⟩,⟨#[50]⟩⟩],⟨#[]⟩,0,0):=by kernel_rfl
theorem Ii:∀i,i<qn.size→bt qn i≠35:=by decide+kernel
theorem va:lm ⟨#[49]⟩:=⟨by rw[eT];decide,by rw[eT];decide,by rw[eT];decide,by rw[eT];decide,by rw[eT];decide,by rw[eT];decide,by rw[eT];decide⟩
theorem vb:lm ⟨#[50]⟩:=⟨by rw[eT];decide,by rw[eT];decide,by rw[eT];decide,by rw[eT];decide,by rw[eT];decide,by rw[eT];decide,by rw[eT];decide⟩
def b0(m f:ByteArray):Tree:=
 .node 1 m [⟨#[]⟩,⟨#[32]⟩,⟨#[]⟩] [.node 2 f [⟨#[32]⟩,⟨#[32]⟩,⟨#[]⟩,⟨#[]⟩,⟨#[]⟩,⟨#[32]⟩] [.node 5 ⟨#[]⟩ [⟨#[32]⟩] [],.node 21 ⟨#[43]⟩ [⟨#[32]⟩] [.node 10 ⟨#[49]⟩ [⟨#[32]⟩] [],.node 10 ⟨#[50]⟩ [⟨#[32]⟩] []]]]
theorem Ij(h:Hp)(w:World)(E:ao h w):Calls ai 21 #[ah ql] w fun A w'=>∃v,A= .returned (bD #[v,af ae 0,af ae 0])∧∃h',St w.heap.size h w h' w'∧aP h' v (b0 ⟨#[77]⟩ ⟨#[102]⟩):=
 u9 h w E ql (by decide+kernel) Ic _ _ _ _ _ _ _ _ _ _ _ _ _ Ib rfl rfl rfl rfl rfl rfl rfl rfl rfl rfl va (by decide+kernel) rfl vb
theorem Ik(h:Hp)(w:World)(E:ao h w):Calls ai 21 #[ah qm] w fun A w'=>∃v,A= .returned (bD #[v,af ae 0,af ae 0])∧∃h',St w.heap.size h w h' w'∧aP h' v (b0 ⟨#[78]⟩ ⟨#[103]⟩):=
 u9 h w E qm (by decide+kernel) Ig _ _ _ _ _ _ _ _ _ _ _ _ _ Ie rfl rfl rfl rfl rfl rfl rfl rfl rfl rfl va (by decide+kernel) rfl vb
theorem Il(h:Hp)(w:World)(E:ao h w):Calls ai 21 #[ah qn] w fun A w'=>∃v,A= .returned (bD #[v,af ae 0,af ae 0])∧∃h',St w.heap.size h w h' w'∧aP h' v (b0 ⟨#[77]⟩ ⟨#[103]⟩):=
 u9 h w E qn (by decide+kernel) Ii _ _ _ _ _ _ _ _ _ _ _ _ _ Ih rfl rfl rfl rfl rfl rfl rfl rfl rfl rfl va (by decide+kernel) rfl vb
section
variable {ck:Int→ByteArray→List Nat→ByteArray}
theorem AQ{s:bp}{od nd:List cF}(E:∀kn,∀x∈(dk ck nd kn).1,fX s.nt x=false):lc ck od nd s=s:=by
 unfold lc;simp only
 have O:∀(l:List bq) (g:List (Int×List bq)),(∀x∈l,fX s.nt x=false)→l.foldl e3 (g,s)=(g,s):=by
  intro l;induction l with
  |nil=>intro g _;rfl
  |cons x l M=>
   intro g A;have G:=A x eu;rw[dK];have:e3 (g,s) x=(g,s):=by unfold e3;rw[if_pos (.inr (.inr G))]
   rw[this];exact M g fun y hy=>A y (cW _ hy)
 rw[O _ _ (E _)]
theorem AR{z:Nat}{l:List Bool}{nt:List Tree}(hz:∀i,i<nt.length→(nt.getD i default).size=z)(Y:nt.length=1)(ab:l.length=z)(M:∀i,i<z→1≤i→l.getD i false=true)(kn:List ByteArray)(x:bq)(O:x∈(dk ck (aj 0 nt) kn).1):fX [l] x=false:=by
 obtain⟨h1,h2,E,G⟩:=rN nt kn x O;have e:=hz _ h1;rw[e]at G;have A:x.J=0:=by omega
 unfold fX;rw[List.all_eq_false];refine⟨true,?_,by simp⟩;rw[A,List.getD_cons_zero,List.mem_iff_getElem];have:=M x.number (by omega) E;rw[bb,aE (by omega)]at this;refine⟨0,by rw[List.length_take,List.length_drop];omega,?_⟩;simpa using this
def dG(f:ByteArray):Tree:= .node 2 f [⟨#[32]⟩,⟨#[32]⟩,⟨#[]⟩,⟨#[]⟩,⟨#[]⟩,⟨#[32]⟩] [.node 5 ⟨#[]⟩ [⟨#[32]⟩] [],.node 21 ⟨#[43]⟩ [⟨#[32]⟩] [.node 10 ⟨#[49]⟩ [⟨#[32]⟩] [],.node 10 ⟨#[50]⟩ [⟨#[32]⟩] []]]
theorem nh(m f:ByteArray):aj 0 [b0 m f]=[⟨0,1,dG f⟩]:=rfl
def AU:List (Int×Int):=[(0,0),(1,1),(2,2),(3,3),(4,4)]
theorem vc:(bE (aO (dG ⟨#[102]⟩)) (aO (dG ⟨#[103]⟩)) 100).aR=AU∧(bE (aO (dG ⟨#[102]⟩)) (aO (dG ⟨#[103]⟩)) 100).cost=1:=by
 have e:=H4 (kr (dG ⟨#[102]⟩)) (kr (dG ⟨#[103]⟩)) (by decide+kernel) (by decide+kernel) 100 (by decide+kernel) (by decide+kernel) (by decide+kernel) (by decide+kernel) (fun i A=>by
  obtain⟨j,rfl⟩:∃j,i=j+1:=⟨i-1,by omega⟩
  unfold nd aO dG;rw[ej,ej];simp only[Int.toNat_natCast,List.getD_cons_succ])
 refine⟨e.1.trans (by decide+kernel),e.2⟩
theorem Im:hI 100 (dG ⟨#[102]⟩) (dG ⟨#[103]⟩)=1:=by unfold hI;rw[vc.2];decide+kernel
def jA(om nm:List Int)(oa na:List Int)(b:Bool)(p:Int×Int):bp:=⟨om,nm,oa,na,[[b,false,false,false,false,false]],[[b,false,false,false,false,false]],[[p,(-1,0),(-1,0),(-1,0),(-1,0),(-1,0)]],0,0⟩
theorem Io:l5 [b0 ⟨#[77]⟩ ⟨#[102]⟩] [b0 ⟨#[77]⟩ ⟨#[103]⟩] (cN [b0 ⟨#[77]⟩ ⟨#[102]⟩] [b0 ⟨#[77]⟩ ⟨#[103]⟩])=jA [0] [0] [-1] [-1] true (0,0):=by kernel_rfl
theorem Ip:l5 [b0 ⟨#[77]⟩ ⟨#[102]⟩] [b0 ⟨#[78]⟩ ⟨#[103]⟩] (cN [b0 ⟨#[77]⟩ ⟨#[102]⟩] [b0 ⟨#[78]⟩ ⟨#[103]⟩])=jA [-1] [-1] [-1] [-1] false (-1,0):=by kernel_rfl
theorem Iq(cost:Nat→Nat→Int)(drop add:Nat→Int)(E:cost 0 0=1)(G:drop 0=5)(A:add 0=5):eX [-1] [-1] cost drop add=([0],[0]):=by have e:=H0 1 0 (by omega) cost drop add 5 E G A (H6 5 (by omega) (by omega));exact e
theorem AV(m E:ByteArray)(om nm:List Int)(b:Bool)(p:Int×Int)(A:dh [-1] [-1] (la [⟨0,1,dG ⟨#[102]⟩⟩]) (km [⟨0,1,dG ⟨#[103]⟩⟩] nm)=([-1],[-1])):l4 100 [b0 m ⟨#[102]⟩] [b0 E ⟨#[103]⟩] (jA om nm [-1] [-1] b p)=jA om nm [0] [0] b p:=by unfold l4;rw[nh,nh];simp only[jA];rw[A];rw[show dh [-1] [-1] (iw [⟨0,1,dG ⟨#[102]⟩⟩]) (iw [⟨0,1,dG ⟨#[103]⟩⟩])=([-1],[-1])from by decide+kernel];rw[Iq _ _ _ Im (by decide+kernel) (by decide+kernel)]
theorem AW(m A:ByteArray)(om nm:List Int)(b:Bool)(p:Int×Int):(kw 100 [b0 m ⟨#[102]⟩] [b0 A ⟨#[103]⟩] (jA om nm [0] [0] b p)).rs=[[p,(0,1),(0,2),(0,3),(0,4),(0,5)]]∧(kw 100 [b0 m ⟨#[102]⟩] [b0 A ⟨#[103]⟩] (jA om nm [0] [0] b p)).nt=[[b,true,true,true,true,true]]∧(kw 100 [b0 m ⟨#[102]⟩] [b0 A ⟨#[103]⟩] (jA om nm [0] [0] b p)).cost=1:=by
 have e:ek 100 [⟨0,1,dG ⟨#[102]⟩⟩] [⟨0,1,dG ⟨#[103]⟩⟩] (jA om nm [0] [0] b p) 0=gX 0 1 0 1 AU {jA om nm [0] [0] b p with cost:=1,a7:=bS (0+(bE (aO (dG ⟨#[102]⟩)) (aO (dG ⟨#[103]⟩)) 100).a7)}:=by
  have G:¬ge (jA om nm [0] [0] b p).oa ((0:Nat):Int)<0:=by show¬ge [0] ((0:Nat):Int)<0;decide
  unfold ek;simp only;rw[if_neg G];show gX 0 1 0 1 (bE (aO (dG ⟨#[102]⟩)) (aO (dG ⟨#[103]⟩)) 100).aR ⟨om,nm,[0],[0],_,_,_,bS (0+(bE (aO (dG ⟨#[102]⟩)) (aO (dG ⟨#[103]⟩)) 100).cost),bS (0+(bE (aO (dG ⟨#[102]⟩)) (aO (dG ⟨#[103]⟩)) 100).a7)⟩=_;rw[vc.1,vc.2,show bS (0+1)=1 from zp (by omega) (by omega)];rfl
 have E:kw 100 [b0 m ⟨#[102]⟩] [b0 A ⟨#[103]⟩] (jA om nm [0] [0] b p)=gF [⟨0,1,dG ⟨#[103]⟩⟩] (ek 100 [⟨0,1,dG ⟨#[102]⟩⟩] [⟨0,1,dG ⟨#[103]⟩⟩] (jA om nm [0] [0] b p) 0) 0:=by unfold kw;rw[nh,nh];rw[Bt,Bt,show aw 1=[0]from rfl,dK,fk,dK,fk]
 rw[E,e];generalize bS (0+(bE (aO (dG ⟨#[102]⟩)) (aO (dG ⟨#[103]⟩)) 100).a7)=z;refine⟨rfl,rfl,rfl⟩
theorem AX:(eD ck 100 [b0 ⟨#[77]⟩ ⟨#[102]⟩] [b0 ⟨#[77]⟩ ⟨#[103]⟩]).rs=[[(0,0),(0,1),(0,2),(0,3),(0,4),(0,5)]]∧(eD ck 100 [b0 ⟨#[77]⟩ ⟨#[102]⟩] [b0 ⟨#[77]⟩ ⟨#[103]⟩]).cost=1:=by
 have e:=AW ⟨#[77]⟩ ⟨#[77]⟩ [0] [0] true (0,0);unfold eD;rw[Io,AV _ _ _ _ _ _ (by decide+kernel)];rw[AQ fun kn x A=>by rw[e.2.1];exact AR (z:=6) (by decide+kernel) rfl rfl (by decide+kernel) kn x A]
 exact⟨e.1,e.2.2⟩
theorem Ir:(eD ck 100 [b0 ⟨#[77]⟩ ⟨#[102]⟩] [b0 ⟨#[78]⟩ ⟨#[103]⟩]).rs=[[(-1,0),(0,1),(0,2),(0,3),(0,4),(0,5)]]:=by
 have e:=AW ⟨#[77]⟩ ⟨#[78]⟩ [-1] [-1] false (-1,0);unfold eD;rw[Ip,AV _ _ _ _ _ _ (by decide+kernel)];rw[AQ fun kn x A=>by rw[e.2.1];exact AR (z:=6) (by decide+kernel) rfl rfl (by decide+kernel) kn x A]
 exact e.1
end
theorem Hk(ot nt:List Tree):cw (cN ot nt) ot nt:=by
 have g:∀(l:List Tree) (f:Tree→List Bool),(∀t,(f t).length=t.size)→∀i,i<l.length→((l.map f).getD i []).length=(l.getD i default).size:=fun l f E i A=>by rw[getD_at (by simpa using A),getD_at A,eU,E]
 have G:∀(l:List Tree) (f:Tree→List (Int×Int)),(∀t,(f t).length=t.size)→∀i,i<l.length→((l.map f).getD i []).length=(l.getD i default).size:=fun l f E i A=>by rw[getD_at (by simpa using A),getD_at A,eU,E]
 have r:∀(n m:Nat),∀x∈aA n (-1:Int),x<(m:Int):=fun n m x M=>by have:=List.eq_of_mem_replicate M;omega
 refine⟨⟨by simp[cN],by simp[cN],r _ _,r _ _⟩,⟨by simp[cN],by simp[cN],r _ _,r _ _⟩,by simp[cN],by simp[cN],by simp[cN],g ot _ (by simp),g nt _ (by simp),G nt _ (by simp)⟩
theorem Hl{ot nt:List Tree}{s:bp}(h:cw s ot nt):cw (l5 ot nt s) ot nt:=by unfold l5;exact hX (P:=fun t=>cw t ot nt) _ _ (zX h) fun t j _ q=>zY q j
theorem Hm{budget:Int}{ot nt:List Tree}{s:bp}(h:cw s ot nt):cw (kw budget ot nt s) ot nt:=by unfold kw;exact hX (P:=fun t=>cw t ot nt) _ _ (hX (P:=fun t=>cw t ot nt) _ _ h fun t j _ q=>(zZ q j).1) fun t j _ q=>(z1 q j).1
theorem e4.r3{h:Hp}{w w1:World}{B xb so sn:Nat}{budget:Int}{V:eL→Value}{s:bp}(q:bH h w B xb so sn budget V s)(A:B≤w.heap.size)(t:Tu (dF V xb) w w1)(E:B≤xb):Below B w w1:=
 t.jR A fun k e=>by
  rcases e with⟨r,e⟩|rfl;·exact((q.rows.own r).lt k e).1
  ·exact E
def z6(h:Hp)(v:Value)(rs:List (List (Int×Int))):Prop:=∃R:Nat→Value,hV h v ((aw rs.length).map R)∧∀i,i<rs.length→Sl h (R i) (rs.getD i []).length 2 ((rs.getD i []).flatMap bV)
def z7(p:bp)(h:Hp)(w:World)(e:Ending)(w':World):Prop:=∃rv h',e= .returned (.agg #[rv,af ae p.cost,af ae p.a7])∧St w.heap.size h w h' w'∧z6 h' rv p.rs
theorem Ow.Ad{K:Type}{enc:K→Value}{w:World}{h:Hp}{B:Nat}{e:TypeId}{k n r:Nat}{v:Value}{xs:List Value}{l:List (K×Value)}(o:Ow w h B e k v n xs)(m:aS enc w r l):v.ownBlock≠some r:=fun q=>by
 rcases o.row.2 with⟨rfl,rfl⟩|⟨M,E,G,rfl,O,A,_⟩;·simp[bW]at q
 ·simp only[bW,aC]at q;subst q;unfold aS at m;rw[A]at m;simp[cG]at m
theorem Hy{h A:Hp}{w0 w:World}{B xb so sn:Nat}{budget:Int}{V:eL→Value}{s:bp}{M:Value}(q:bH h w B xb so sn budget V s)(b:Below w0.heap.size w0 w)(_hb:w0.heap.size≤B)(ad:A.le h)(aj:∀b,b<w0.heap.size→h b=A b)(o:hV h M ((aw s.rs.length).map fun i=>V (.rs i)))(ab:∀i,(s.rs.getD i []).length≤140737488355328)(bx:Nat)(E:w0.heap.size≤bx)(O:bx<B)(ac:h bx=none)(x y z:Value):z7 s A w0 (.returned (.agg #[M,af ae s.cost,af ae s.a7])) (((w.setCell ⟨bx,0,none⟩ x).setCell ⟨bx,1,none⟩ y).setCell ⟨bx,2,none⟩ z):=by
 have l2:=Hp.gQ (B:=B) q.I;have G:(h.fr B w) bx=none:=by unfold Hp.fr;rw[if_pos O];exact ac
 have ak:St w0.heap.size A w0 (h.fr B w) w:=⟨b,q.I.fr,Hp.le_trans ad l2,fun k Y=>by unfold Hp.fr;rw[if_pos (by omega)];exact aj k Y,an _⟩
 exact⟨M,h.fr B w,rfl,((ak.setCell (p:=⟨bx,0,none⟩) E G x).setCell (p:=⟨bx,1,none⟩) E G y).setCell (p:=⟨bx,2,none⟩) E G z,fun i=>V (.rs i),o.mono l2,fun i _=>(q.rows.own (.rs i)).sl (ab i)⟩
theorem Hz{ck:Int→ByteArray→List Nat→ByteArray}{od nd:List cF}(s:bp)(i:Nat):((lc ck od nd s).rs.getD i []).length=(s.rs.getD i []).length:=by
 unfold lc;simp only
 have M:∀(l:List bq) (p:List (Int×List bq)×bp),((l.foldl e3 p).2.rs.getD i []).length=(p.2.rs.getD i []).length:=by
  intro l;induction l with
  |nil=>intro p;rfl
  |cons x l E=>
   intro p;rw[dK,E];unfold e3;split;·rfl
   ·split;·rfl
    ·simp only;generalize A:x.size=n;clear A;induction n with
     |zero=>rfl
     |succ n G=>rw[dx,List.foldl_append,dK,fk];simp only[du,lW];exact G
 exact M _ _
theorem u2(T:Lib.PrintTabs)(N:Nat)(h:Hp)(w:World)(G:ao h w)(d0:Tb T N w)(a8 a5:Value)(ot nt:List Tree)(db:hQ h a8 ot)(de:hQ h a5 nt)(budget:Int)(c8:aG budget)(dE:jc ot=true)(dD:jc nt=true)(dT:∀t∈ot,t.texts)(dU:∀t∈nt,t.texts)(b1:e7 ot)(b2:e7 nt)(dk:pa ot)(dm:pa nt):Calls ai 11 #[a8,a5,af ae budget] w (z7 (eD (aX T) budget ot nt) h w):=by
 have b0:=aa G;have aY:=aa d0;have b9:=aa db;have cc:=aa de;have bZ:=aa c8;have PO:=aa dE;have ey:=aa dD;have eA:=aa dT;have eB:=aa dU;have ab:=aa b1;have O:=aa b2;have ei:=aa dk;have ej:=aa dm;have cN:=aa (Has.new w #[ag none 0 0,af ae 0,af ae 0] 31);have BR:Hid (Below w.heap.size w (w.alloc (.cells #[ag none 0 0,af ae 0,af ae 0] 31))):=(aD _ _).alloc (an _) _;clear G d0 db de c8 dE dD dT dU b1 b2 dk dm;go_enter Tryz.func11,Tryz.ntmps11;go_wp2_with fail;generalize w.alloc (.cells #[ag none 0 0,af ae 0,af ae 0] 31)=w0 at*;have aQ:=aa (b0.out.below BR.out);refine(Ac h _ (by exact aQ.out) a8 ot b9.out eA.out).mono ?_;rintro e w1 ⟨rfl,c1⟩;rw[PO.out];go_wp2_with fail;refine(Ac h _ (by exact aQ.out.below c1) a5 nt cc.out eB.out).mono ?_;rintro e w2 ⟨rfl,c2⟩;rw[ey.out];have ec:=aa ((aQ.out.below c1).below c2);have cM:=aa ((cN.out.below c1).below c2);have Y:=aa (BR.out.trans ((c1.trans (c2.mono c1.size)).mono BR.out.size));clear c1 c2 aQ cN BR;go_wp2_with fail;refine(Ae h _ (by exact ec.out) a8 ot b9.out ab.out.len ab.out.lr ab.out.dS).mono ?_;rintro e w3 ⟨so,eJ,ms,e9,mv,av,kv,rfl,fr,dP,bp,dn,dw,aL,aM,aN,ak,am,ax,aB⟩;have ad:=aa dP;have bp:=aa bp;have ek:=aa dn;have er:=aa dw;have ch:=aa aL;have ci:=aa aM;have cj:=aa aN;have d1:=aa ak;have d3:=aa am;have d5:=aa ax;have d7:=aa aB;clear dP dn dw aL aM aN ak am ax aB;go_wp2_with fail;refine(Ae eJ _ (by exact ad.out.I) a5 nt (by exact cc.out.mono ad.out.le) O.out.len O.out.lr O.out.dS).mono ?_;rintro e A ⟨sn,aj,dt,e',eo,eN,dR,rfl,fn,dQ,aS,dp,dA,aL,aM,aN,ak,am,ax,aB⟩;have M:=aa dQ;have aS:=aa aS;have el:=aa dp;have cl:=aa dA;have co:=aa aL;have cq:=aa aM;have bq:=aa aN;have d2:=aa ak;have d4:=aa am;have d6:=aa ax;have d8:=aa aB;clear dQ dp dA aL aM aN ak am ax aB;obtain⟨eF,ck,rfl,fj,c9⟩:=cl.out.at M.out.I;have es:=aa c9;obtain⟨fy,fx,fc,a2,-,-,-⟩:=aS.out.box;have e8:=aa a2;have e0:(A.alloc (.cells #[az (some ⟨so,0,none⟩),az (some ⟨sn,0,none⟩),af ae budget,ag none 0 0,af ae 0,af ae 0] 57)).cell? ⟨sn,5,none⟩=some (ag eF nt.length ck):=cu (M.out.I.alloc _) a2 5;have fG:=cD (M.out.I _ _ a2);have fP:sn<A.heap.size+1:=by omega
 have bX:Hid (iD aj (A.alloc (.cells #[az (some ⟨so,0,none⟩),az (some ⟨sn,0,none⟩),af ae budget,ag none 0 0,af ae 0,af ae 0] 57)) A.heap.size so sn budget (fun _=>mY) nt 0):=
  ⟨M.out.I.alloc _,jV.start _ _ _ _ _,Has.new A #[az (some ⟨so,0,none⟩),az (some ⟨sn,0,none⟩),af ae budget,ag none 0 0,af ae 0,af ae 0] 57,bI M.out.I _ (an _),⟨rfl,rfl⟩,fun i G=>(Nat.not_lt_zero _ G).elim,fun i _=>rfl⟩
 have B0:Hid (Below A.heap.size A (A.alloc (.cells #[az (some ⟨so,0,none⟩),az (some ⟨sn,0,none⟩),af ae budget,ag none 0 0,af ae 0,af ae 0] 57))):=(aD _ _).alloc (an _) _;clear a2 c9;go_wp2_with fail;go_loopw[9,34,35,36,37,38,39,40,41,42,43,44,45,46,47,48,49,50,51,52,53,54] (fun _ i _ _ _ _ _ _ _ _ _ _ _ _ _ _ _ _ _ _ _ _ wr=>∃(j:Nat) (F:Nat→bY),j≤nt.length∧i=af ae j∧iD aj wr A.heap.size so sn budget F nt j∧Below A.heap.size A wr) (fun _ i _ _ _ _ _ _ _ _ _ _ _ _ _ _ _ _ _ _ _ _ _=>nt.length-(intOf i).toNat);case atStart=>exact⟨0,fun _=>mY,Nat.zero_le _,rfl,bX.out,B0.out⟩
 case round=>
  obtain⟨j,F,fi,rfl,g,bl⟩:=hrel;clear bX B0 e0;by_cases hj:j<nt.length
  ·obtain⟨b,eW,rfl,bN,dg,eO⟩:=es.out j hj;have fF:=Nat.lt_of_lt_of_le bN bl.size;have k1:=(bl.cell (p:=⟨b,eW+j,none⟩) bN).trans dg;have bH:=bq.out j;have cX:(nt.map fun t=>aA t.size false).getD j []=aA (nt.getD j default).size false:=by rw[getD_at (by simpa using hj),getD_at hj,eU]
   rw[cX,List.length_replicate]at bH;obtain⟨fb,c5,cV⟩:=bH.shape;rw[cV]at k1;have hz:(nt.getD j default).size≤1000000:=by rw[getD_at hj];exact O.out.lr _ (aK hj)
   have fh:j≤1000000:=by have:=O.out.len;omega
   obtain⟨z,bC⟩:∃z,z=(nt.getD j default).size:=⟨_,rfl⟩
   rw[←bC]at k1 hz;have eb:=aa bC.symm;have bm:=aa g;have cd:=aa g.I;have d9:=aa bl;have ep:Hid (Ow wr aj (A.heap.size+1) 40 1 (F 0).v j (F 0).xs):=by have:=g.rows.own 0;rw[g.n0.1]at this;exact this
   have c3:wr.cell? ⟨A.heap.size,3,none⟩=some (F 0).v:=g.box.cl 3;have e6:=g.box.lt;have fA:(0:Int)≤(j:Int):=by omega
   have fB:(j:Int)<(nt.length:Int):=by omega
   clear g bl dg bH cX cV eO bC bN;go_wp2_with fail;refine wp_region_noPanic ?_;refine nE (n:=16) (S:=fun w'=>w'.cell? ⟨A.heap.size,3,none⟩=some (F 0).v) (by kernel_rfl) ?_ (fun eM=> ?_);·go_keep
   simp only[Array.replicate,aA,List.size_toArray,bF,List.length_nil,Nat.zero_add,Nat.reduceAdd]
   iterate 7
    refine iL (v:= ?_) 0 rfl (by kernel_rfl) (fun _ _ _ h=>h) (by rfl) (by assumption) ?_ ?_
    rotate_left
    ·intro w bB;(try dsimp only at bB);simp only[nx];go_simp<;>with_reducible rfl
    simp only[nx,br,eV,dV,dJ,bh,be,bf]
   iterate 2
    refine iL (v:= ?_) 8 rfl (by kernel_rfl) (fun _ _ _ h=>h) (by rfl) (by assumption) ?_ ?_
    rotate_left
    ·intro w bB;(try dsimp only at bB);simp only[nx];go_simp<;>with_reducible rfl
    simp only[nx,br,eV,dV,dJ,bh,be,bf]
   refine cE (rs:=[7]) (by kernel_rfl) (by simp) ?_;refine aZ.cons (o:=_) rfl (fun K E=> ?_) aZ.nil;go_simp;refine E.out _ _ (fun _=> ?_) ?_;·go_keep
   clear E K;try simp only[bh,be,bf]
   refine cE (rs:=[10]) (by kernel_rfl) (by simp) ?_;refine aZ.cons (o:=_) rfl (fun K E=> ?_) aZ.nil;go_simp;go_at_call 24;refine(Fz aj _ (by exact cd.out.drew.alloc _) wr.heap.size nc rfl (cm _ rfl) (fun j v e=>by show(wr.alloc (.cells nc.toArray 43)).cell? ⟨wr.heap.size,j,none⟩=some v;rw[World.cell?_alloc_at _ _ _ _ rfl];simpa using e) (by simp) z (by omega)).mono ?_;rintro e aO ⟨rfl,cQ,du⟩;have aP:Below wr.heap.size wr aO:=(((aD wr.heap.size wr).drew).alloc (an _) (.cells #[af ae (-1),af ae 0] 43)).trans (cQ.mono (by simp));have eH:=(aP.cell (p:=⟨A.heap.size,3,none⟩) e6).trans c3;have dv:Ow aO aj (A.heap.size+1) 43 2 (ag (some ⟨wr.heap.size+1,0,none⟩) z z) z (aA z nc).flatten:=by have:=du.base (B':=A.heap.size+1) (by simp;omega);simpa using this
   have eq:=aa dv;clear dv;have bd:=aa aP;have eP:=aP.size;clear cQ du aP;refine E.out _ _ (fun _=> ?_) ?_;·exact eH
   clear E K;try simp only[bh,be,bf]
   refine cE (rs:=[11]) (by kernel_rfl) (by simp) ?_;refine aZ.cons (o:=_) rfl (fun K E=> ?_) aZ.nil;go_simp;refine E.out _ _ (fun _=> ?_) ?_;·go_keep
   clear E K;try simp only[bh,be,bf]
   refine cE (rs:=[12]) (by kernel_rfl) (by simp) ?_;refine aZ.cons (o:=_) rfl (fun K E=> ?_) aZ.nil;refine gS EX (by rfl) _ _ (by rfl) (B:=A.heap.size+1) (St.dN ((cd.out.below bd.out).alloc _) (by simp;omega)) _ j (F 0).xs (by rfl) ((ep.out.same bd.out).alloc _) ⟨aO.heap.size,0,none⟩ 1 1 [ag (some ⟨wr.heap.size+1,0,none⟩) z z] (by rfl) (by rfl) (cK _ _ _ _ (by simp)) (cm _ rfl) (by omega) (by omega) ?_;intro a1 cg bJ e1 dC bA cS;have bg:Below wr.heap.size wr (aO.alloc (.cells #[ag (some ⟨wr.heap.size+1,0,none⟩) z z] 40)):=bd.out.alloc eP _;have q:=bm.out.step (rb:=bY.mk (ag (some ⟨wr.heap.size+1,0,none⟩) z z) z (aA z nc).flatten) (r0:=bY.mk (ag (some ⟨a1,0,none⟩) (j+1) cg) (j+1) ((F 0).xs++([ag (some ⟨wr.heap.size+1,0,none⟩) z z]:List Value))) bg (eq.out.alloc _) ⟨wr.heap.size+1,rfl,by omega⟩ (by rw[eb.out];exact⟨rfl,rfl⟩) ((Tu.refl _ _).grown bA fun k e=> .inl e) dC (by rcases cS with e|e;exact .inl e;exact .inr ⟨_,e,an _⟩) ⟨rfl,rfl⟩;have PX:Hid (iD aj (bJ.setCell ⟨A.heap.size,3,none⟩ (ag (some ⟨a1,0,none⟩) (j+1) cg)) A.heap.size so sn budget (ba (ba F (1+j) (bY.mk (ag (some ⟨wr.heap.size+1,0,none⟩) z z) z (aA z nc).flatten)) 0 (bY.mk (ag (some ⟨a1,0,none⟩) (j+1) cg) (j+1) ((F 0).xs++([ag (some ⟨wr.heap.size+1,0,none⟩) z z]:List Value)))) nt (j+1)∧Below A.heap.size wr (bJ.setCell ⟨A.heap.size,3,none⟩ (ag (some ⟨a1,0,none⟩) (j+1) cg))):=q;have a3:=(bm.out.box.below bg).tu ((Tu.refl (fun b=>(F 0).v.ownBlock=some b) _).grown bA fun k e=> .inl e) fun e=>by have:=bm.out.hJ 0 e;omega
   have cU:bJ.cell? ⟨A.heap.size,3,none⟩=some (F 0).v:=a3.cl 3;have eI:=a3.fz 3;have e5:=a3.lt;clear e1 dC bA cS bg q a3;refine E.out _ _ (fun _=> ?_) ?_;·exact cU
   clear E K;try simp only[br,bh,be,bf]
   refine cE (rs:=[13]) (by kernel_rfl) (by simp) ?_;refine aZ.cons (o:=_) rfl (fun K E=> ?_) aZ.nil;go_simp;refine E.out _ _ (fun _=> ?_) ?_;·go_keep
   clear E K;try simp only[bh,be,bf]
   refine cE (rs:=[14]) (by kernel_rfl) (by simp) ?_;refine aZ.cons (o:=_) rfl (fun K E=> ?_) aZ.nil;go_simp;refine E.out _ _ (fun _=> ?_) ?_;·go_keep
   clear E K;try simp only[bh,be,bf]
   refine cE (rs:=[15]) (by kernel_rfl) (by simp) ?_;refine aZ.cons (o:=_) rfl (fun K E=> ?_) aZ.nil;go_simp;refine E.out _ _ (fun _=> ?_) ?_;·go_keep
   clear E K;try simp only[bh,be,bf]
   refine cE (rs:=[16]) (by kernel_rfl) (by simp) ?_;refine aZ.cons (o:=_) rfl (fun K E=> ?_) aZ.nil;go_simp;refine E.out _ _ (fun h=>absurd h (by decide)) ?_;clear E K;try simp only[bh,be,bf]
   refine lK (by kernel_rfl) ?_ _;simp only[NoPanic];have eE:=aa PX.out.1;have ea:=aa (d9.out.trans PX.out.2);clear PX cU eI e5 eM;go_wp2_with fail;go_roundw;case rel=>exact⟨j+1,_,by omega,by go_num,eE.out,ea.out⟩
   case measure=>simp[intOf];omega
  ·obtain rfl:j=nt.length:=by omega
   have eG:=aa bl;have dq:w2.heap.size≤w3.heap.size:=ad.out.below.size;have dr:w3.heap.size≤A.heap.size:=M.out.below.size
   obtain⟨eK,V,di,dB,k5,dh,a4⟩:=Hj (_w2:=A) (B:=w2.heap.size) (bp.out.mono M.out.le) aS.out g (er.out.mono M.out.le) cl.out w3.heap.size dq dr
    ((ch.out.call M.out).same bl) ((ci.out.call M.out).same bl) (fun i=>((cj.out i).call M.out).same bl) d1.out d3.out d5.out d7.out
    (fun g e=>(ch.out.lt g e).2) (fun g e=>(ci.out.lt g e).2) (fun i g e=>((cj.out i).lt g e).2)
    (co.out.same bl) (cq.out.same bl) (fun i=>(bq.out i).same bl) d2.out d4.out d6.out d8.out
    (fun g e=>(co.out.lt g e).2) (fun g e=>(cq.out.lt g e).2) (fun i g e=>((bq.out i).lt g e).2) (by have:=O.out.len;omega)
   have cG:Tu (fun _=>False) w3 wr:=((Tu.refl (fun _=>False) w3).below M.out.below).below bl;have cf:Hid (iz wr ms ot):=ek.out.tu cG fun _ _ e=>e;have ce:Hid (iz wr dt nt):=el.out.tu ((Tu.refl (fun _=>False) A).below bl) fun _ _ e=>e;have em:Hid (∀i,i<ot.length→¬e4 V (ms.getD i 0)):=fun i G ⟨k,e⟩=>(a4.rows.own k).Ad (cf.out i G) e;have en:Hid (∀i,i<nt.length→¬e4 V (dt.getD i 0)):=fun i G ⟨k,e⟩=>(a4.rows.own k).Ad (ce.out i G) e;have c6:w2.heap.size≤wr.heap.size:=by have:=bl.size;omega
   have a9:w2.heap.size≤A.heap.size:=by omega
   have ct:=aa a4;have aT:=aa k5;have aV:=aa dh;have cn:Hid (∀b,b≤A.heap.size→eK b=aj b):=dB;have ed:=aa di;have cB:=aa (Hk ot nt);clear a4 k5 dh dB di cG g bl;go_wp2_with fail;refine(HA ct.out aT.out aV.out cf.out ce.out em.out en.out cB.out ab.out O.out c6).mono ?_;rintro e e2 ⟨rfl,dF,dW⟩;have cv:=aa dF;have bO:=aa (e4.r3 ct.out c6 (dW.mono fun b e=> .inl e) a9);have cC:=aa (Hl cB.out);clear dF dW;have cY:w2.heap.size≤e2.heap.size:=by have:=bO.out.size;omega
   go_wp2_with fail;refine(HB cv.out bZ.out aT.out aV.out cC.out ab.out O.out cY (fun i j G hj=>Gr _ _ _ (ab.out.size _ (by rw[getD_at G];exact aK G)) (O.out.size _ (by rw[getD_at hj];exact aK hj)))).mono ?_;rintro e e3 ⟨rfl,dG,dX⟩;have cw:=aa dG;have bR:=aa (bO.out.trans (e4.r3 cv.out cY (dX.mono fun b e=> .inl e) a9));have cF:=aa (HC (budget:=budget) cC.out);clear dG dX;have eL:w2.heap.size≤e3.heap.size:=by have:=bR.out.size;omega
   go_wp2_with fail;refine(HD cw.out bZ.out aT.out aV.out cF.out ab.out O.out (fun d _ e _=>Gn _ _ _)).mono ?_;rintro e bL ⟨rfl,dN,dY⟩;have cz:=aa dN;have bS:=aa (bR.out.trans (e4.r3 cw.out eL dY a9));have bv:=aa (Hm (budget:=budget) cF.out);clear dN dY;have cZ:w2.heap.size≤bL.heap.size:=by have:=bS.out.size;omega
   have bT:Hid (Below w2.heap.size w2 bL):=(ad.out.below.trans ((M.out.below.trans (eG.out.mono dr)).mono dq)).trans bS.out;have eC:Hid (Tb T N bL):=(aY.out.below (Y.out.mono aY.out.1)).below (bT.out.mono (by have:=aY.out.1;have:=Y.out.size;omega));go_wp2_with fail;refine(HE T N cz.out eC.out (by have:=aY.out.1;have:=Y.out.size;omega) cZ aT.out aV.out bv.out ab.out O.out ei.out ej.out).mono ?_;rintro e aO ⟨rfl,dO,dZ⟩;have cA:=aa dO;have bV:=aa (bT.out.trans (e4.r3 cz.out cZ dZ a9));clear dO dZ;have ac:=cM.out.below (bV.out.mono (an _));obtain⟨eZ,aJ,bG⟩:=cA.out.box;have ex:=aa bG;have fC:=aJ.cl 3;have fD:=aJ.cl 4;have fE:=aJ.cl 5;have ft:=aJ.lt;have r0:=ac.cl 0;have eX:=ac.cl 1;have eY:=ac.cl 2;have fd:=ac.fz 0;have fe:=ac.fz 1;have ff:=ac.fz 2;have fu:=ac.lt;have dj:=cM.out.lt;have fv:w.heap.size≠A.heap.size:=by omega
   have fw:A.heap.size≠w.heap.size:=by omega
   have ez:Hid (∃av bz bE,eZ=ag av bE bz):=by obtain⟨a,c,e,-⟩:=Sl.shape bG;exact⟨a,c,_,e⟩
   obtain⟨av,bz,bE,rfl⟩:=ez.out;clear ac aJ bG;go_wp2_with fail;refine bodyPost_ret (v:= .agg #[ag av bE bz,af ae (eD (aX T) budget ot nt).cost,af ae (eD (aX T) budget ot nt).a7]) (by simp[results,Tryz.results11,go_sem,r0,eX,eY,eD]) rfl ?_
   exact Hy (s:=eD (aX T) budget ot nt) cA.out (Y.out.trans (bV.out.mono Y.out.size)) Y.out.size (Hp.le_trans ad.out.le (Hp.le_trans M.out.le ed.out)) (fun b fg=>by rw[cn.out b (by have:=Y.out.size;omega),M.out.aI b (by have:=Y.out.size;omega),ad.out.aI b (by have:=Y.out.size;omega)]) ex.out
    (fun i=>by
     unfold eD;rw[Hz];rcases Nat.lt_or_ge i nt.length with G|G;·rw[bv.out.gZ i G,getD_at G];have:=O.out.lr _ (aK G);omega
     ·rw[bb,List.getElem?_eq_none (by rw[bv.out.rl];exact G)];simp) w.heap.size (an _) dj (by rw[cn.out _ (by omega),M.out.aI _ (by omega),ad.out.aI _ dj];exact bI b0.out _ (an _)) _ _ _
end Go.Proofs.YtdplggpbgommnaaGreatDoor
