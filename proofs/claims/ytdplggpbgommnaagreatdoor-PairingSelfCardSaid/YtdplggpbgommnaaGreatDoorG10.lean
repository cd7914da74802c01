/- Certificates in plain words: the cost of an alignment, its potentials; and that no alignment is cheaper. -/
import Derived.Test.YtdplggpbgommnaaGreatDoorG09
open Array renaming getElem?_eq_none→iF
open Bool renaming and_eq_true→cy
open Go renaming getD_set_ne→vH
open Go.Region renaming Mode→sy,binds→oq,free→BC,noSelect→BB,ready→jE,waitsFor_spec→Kc,waitsFor→BA,wanted→ox
open List renaming append_nil→jG,drop_eq_getElem_cons→jh,drop_length→mu,drop_zero→fm,find?_some→Ki,getElem?_eq_none→gM,getElem_cons_succ→dV,getElem_idxOf→vT,getElem_map→eU,getElem_mem→aK,getLastD_concat→vR,idxOf_lt_length_of_mem→vS,map_congr_left→jF,map_cons→cR,map_nil→KS,mem_append→ev,mem_cons→b8,mem_filter→lz,mem_flatMap→hM,mem_map→b6,mem_of_find?_eq_some→BO,mem_singleton→eR,nil_append→ji,nodup_cons→ny,pairwise_append→qE,pairwise_cons→fJ,pairwise_iff_getElem→mw,pairwise_map→mo,setIfInBounds_toArray→bh,sum_cons→hA
open List.Pairwise renaming filter→vM,imp_of_mem→pj,imp→pk
open List.cons renaming injEq→ii
open Nat renaming decEq→vG,lt_or_ge→b7
open Option.some renaming injEq→aC
namespace Go.Proofs.YtdplggpbgommnaaGreatDoor
open Go.RowKit
def cg(cost:List (List Int))(i j:Nat):Int:=(cost.getD i []).getD j 0
def pS(drop add:List Int)(cost:List (List Int))(last p:Int×Int):Prop:=last.1<p.1∧last.2<p.2∧p.1<drop.length∧p.2<add.length∧0≤cg cost p.1.toNat p.2.toNat
instance(drop add:List Int)(cost:List (List Int))(last p:Int×Int):Decidable (pS drop add cost last p):=by unfold pS;infer_instance
def iu(drop add:List Int)(cost:List (List Int)):Int×Int→List (Int×Int)→Int→Option Int
 |_,[],s=>some s
 |last,p::ps,s=>if pS drop add cost last p then iu drop add cost p ps (s+(cg cost p.1.toNat p.2.toNat-drop.getD p.1.toNat 0-add.getD p.2.toNat 0))else none
def tR(drop add:List Int)(cost:List (List Int))(aR:List (Int×Int)):Option Int:=if jt drop add cost=true then iu drop add cost (-1,-1) aR (drop.sum+add.sum)else none
def nQ(drop add:List Int)(cost:List (List Int))(bM:List (List Int))(i j:Nat):Prop:=
 (i<drop.length→cg bM (i+1) j≤cg bM i j+drop.getD i 0)∧(j<add.length→cg bM i (j+1)≤cg bM i j+add.getD j 0)∧(i<drop.length→j<add.length→0≤cg cost i j→cg bM (i+1) (j+1)≤cg bM i j+cg cost i j)
instance(drop add:List Int)(cost bM:List (List Int))(i j:Nat):Decidable (nQ drop add cost bM i j):=by unfold nQ;infer_instance
def rc(n:Nat)(r:List Int):Prop:=r.length=n∧gz 0 1099511627776 r=true
instance(n:Nat)(r:List Int):Decidable (rc n r):=by unfold rc;infer_instance
def nR(drop add:List Int)(cost:List (List Int))(x:jr):Prop:=
 tR drop add cost x.aR=some x.cost∧x.bM.length=drop.length+1∧(∀r∈x.bM,rc (add.length+1) r)∧cg x.bM 0 0=0∧cg x.bM drop.length add.length=x.cost∧∀i,i<drop.length+1→∀j,j<add.length+1→nQ drop add cost x.bM i j
instance(drop add:List Int)(cost:List (List Int))(x:jr):Decidable (nR drop add cost x):=by unfold nR;infer_instance
def pT(x y:List aB)(dm:Int×Int→Int)(e:dY):Prop:=
 nR (bL x e.a) (bL y e.b) (eA x y (e.a,e.b) dm) e.kids∧e.cost=cZ (nd x e.a).text (nd y e.b).text+e.kids.cost
instance(x y:List aB)(dm:Int×Int→Int)(e:dY):Decidable (pT x y dm e):=by unfold pT;infer_instance
def tS(x y:List aB)(m:kd):Prop:=
 (fB x y m.proof.length).map cq=some (m.proof.map fun e=>(e.a,e.b))∧(∀e∈m.proof,pT x y (bG m.proof) e)∧(m.proof.getD 0 default).cost=m.cost
instance(x y:List aB)(m:kd):Decidable (tS x y m):=by unfold tS;infer_instance
def pU(x y:List aB)(m:kd):Prop:=
 dP x y m.aR=some m.cost∧m.a7≤m.cost∧(m.gT=true→m.a7=m.cost∧if(nd x 0).kind=(nd y 0).kind then tS x y m else m.proof=[]∧m.aR=[])
instance(x y:List aB)(m:kd):Decidable (pU x y m):=by unfold pU;infer_instance
section dual
variable {drop add:List Int} {cost bM:List (List Int)}
theorem re(l:List Int)(i:Nat)(h:i<l.length):(l.drop i).sum=l.getD i 0+(l.drop (i+1)).sum:=by rw[jh h,hA,dj l i 0 h]
theorem down(h:∀i,i<drop.length+1→∀j,j<add.length+1→nQ drop add cost bM i j):∀(k i j:Nat),i+k≤drop.length→j≤add.length→cg bM (i+k) j+(drop.drop (i+k)).sum≤cg bM i j+(drop.drop i).sum
 |0,i,j,_,_=>by simp
 |k+1,i,j,h1,h2=>by have a:=(h i (by omega) j (by omega)).1 (by omega);have b:=down h k (i+1) j (by omega) h2;rw[show i+1+k=i+(k+1) by omega]at b;have c:=re drop i (by omega);omega
theorem right(h:∀i,i<drop.length+1→∀j,j<add.length+1→nQ drop add cost bM i j):∀(k i j:Nat),i≤drop.length→j+k≤add.length→cg bM i (j+k)+(add.drop (j+k)).sum≤cg bM i j+(add.drop j).sum
 |0,i,j,_,_=>by simp
 |k+1,i,j,h1,h2=>by have a:=(h i (by omega) j (by omega)).2.1 (by omega);have b:=right h k i (j+1) h1 (by omega);rw[show j+1+k=j+(k+1) by omega]at b;have c:=re add j (by omega);omega
def wt(drop add:List Int)(cost:List (List Int))(q:Nat×Nat):Int:=cg cost q.1 q.2-drop.getD q.1 0-add.getD q.2 0
theorem xF(h:∀i,i<drop.length+1→∀j,j<add.length+1→nQ drop add cost bM i j):∀(G:List (Nat×Nat)) (i j:Nat),i≤drop.length→j≤add.length→G.Pairwise (fun p q=>p.1<q.1∧p.2<q.2)→(∀q∈G,i≤q.1∧j≤q.2∧q.1<drop.length∧q.2<add.length∧0≤cg cost q.1 q.2)→cg bM drop.length add.length≤cg bM i j+(drop.drop i).sum+(add.drop j).sum+(G.map (wt drop add cost)).sum
 |[],i,j,h1,h2,_,_=>by have a:=down h (drop.length-i) i j (by omega) h2;have b:=right h (add.length-j) drop.length j (by omega) (by omega);rw[show i+(drop.length-i)=drop.length by omega,mu]at a;rw[show j+(add.length-j)=add.length by omega,mu]at b;simp only[KS,List.sum_nil]at*;omega
 |(A,E)::G,i,j,h1,h2,hp,hq=>by
  rw[fJ]at hp;obtain⟨ac,ad,M,O,Y⟩:=hq (A,E) (by simp);simp only at ac ad M O Y;have a:=down h (A-i) i j (by omega) h2;have b:=right h (E-j) A j (by omega) (by omega);rw[show i+(A-i)=A by omega]at a;rw[show j+(E-j)=E by omega]at b;have c:=(h A (by omega) E (by omega)).2.2 M O Y;have d:=xF h G (A+1) (E+1) (by omega) (by omega) hp.2 (fun q ab=>by obtain⟨b1,b2,b3,aj,ak⟩:=hq q (by simp[ab]);have:=hp.1 q ab;simp only at this;exact⟨by omega,by omega,b3,aj,ak⟩)
  have e:=re drop A M;have f:=re add E O;rw[cR,hA];simp only[wt];omega
theorem tT{x:jr}(h:nR drop add cost x)(A:List (Nat×Nat))(G:A.Pairwise (fun p q=>p.1<q.1∧p.2<q.2))(M:∀q∈A,q.1<drop.length∧q.2<add.length∧0≤cg cost q.1 q.2):x.cost≤drop.sum+add.sum+(A.map (wt drop add cost)).sum:=by obtain⟨_,_,_,O,h1,h2⟩:=h;have:=xF h2 A 0 0 (by omega) (by omega) G (fun q E=>by have:=M q E;omega);rw[fm,fm]at this;omega
theorem Ea{n:Nat}{bM:List (List Int)}(h:∀r∈bM,rc n r)(i j:Nat):0≤cg bM i j∧cg bM i j≤1099511627776:=by
 unfold cg;rcases b7 i bM.length with A|A
 ·rw[dj bM i [] A];have E:=(h _ (aK A)).2;rw[pQ]at E;rcases b7 j bM[i].length with hj|hj;·rw[dj _ j 0 hj];exact E _ (aK hj)
  ·simp[List.getD,gM hj]
 ·simp[List.getD,gM A]
theorem nR.Eb{x:jr}(h:nR drop add cost x):0≤x.cost:=by obtain⟨_,_,h1,_,h2,_⟩:=h;rw[←h2];exact(Ea h1 _ _).1
end dual
def c6(l:List (Int×Int)):Prop:=l.Pairwise fun p q=>p.1<q.1∧p.2<q.2
theorem Ec{l:List (Int×Int)}{p:Int×Int}(h:c6 l)(E:l≠[]→(fe l).1<p.1∧(fe l).2<p.2):c6 (l++[p]):=by
 unfold c6 at*;rw[qE];refine⟨h,by simp,?_⟩;intro q A r M;simp only[eR]at M;subst M;have G:l≠[]:=fun e=>by subst e;simp at A
 have E:=E G;obtain⟨l',z,rfl⟩:∃l' z,l=l'++[z]:=⟨l.dropLast,l.getLast G,(List.dropLast_concat_getLast G).symm⟩
 unfold fe at E;rw[vR]at E;rcases ev.1 A with A|A;·rw[qE]at h;have:=h.2.2 q A z (by simp);omega
 ·simp only[eR]at A;subst A;exact E
theorem tU(x y:List aB):∀(A pre:List (Int×Int)) (c r:Int),gB x y pre A c=some r→c6 pre→r=c+(A.map fun p=>cZ (nd x p.1).text (nd y p.2).text-2).sum∧c6 (pre++A)∧∀a p b,A=a++p::b→kg x y (pre++a) p
 |[],pre,c,r,h,E=>by simp only[gB,aC]at h;refine⟨by simp[h],by simpa using E,fun a p b e=>by simp at e⟩
 |p::A,pre,c,r,h,E=>by
  rw[gB]at h;split at h;case isFalse=>cases h
  rename_i G;obtain⟨h1,h2,M⟩:=tU x y A (pre++[p]) _ r h (Ec E fun _=>⟨G.1,G.2.1⟩);refine⟨by rw[h1,cR,hA];omega,by simpa using h2,?_⟩;intro a q b e;cases a with
  |nil=>simp only[ji,ii]at e;rw[jG,←e.1];exact G
  |cons a0 a=>simp only[List.cons_append,ii]at e;have:=M a q b e.2;rw[←e.1];simpa using this
def fC(x y:List aB)(q:Int×Int):Int×Int:=((nd x q.1).parent,(nd y q.2).parent)
theorem Ed{A:List (Int×Int)}(E:A.Nodup){z:Int×Int}(hz:z∈A)(v:Int):(A.map fun p=>if z=p then v else 0).sum=v:=by
 induction A with
 |nil=>simp at hz
 |cons a A G=>
  rw[ny]at E;rw[cR,hA];by_cases e:z=a
  ·subst e;have:(A.map fun p=>if z=p then v else 0)=A.map fun _=>0:=by apply jF;intro p M;rw[if_neg (fun e:z=p=>E.1 (by rw[e];exact M))]
   rw[if_pos rfl,this];have:∀(A:List (Int×Int)),(A.map fun _=>(0:Int)).sum=0:=fun A=>by induction A with|nil=>rfl|cons a A G=>rw[cR,hA,G];rfl
   rw[this];omega
  ·rw[if_neg e,G E.2 (by rcases b8.1 hz with h|h;exact absurd h e;exact h)];omega
theorem xG(A:List (Int×Int))(f g:Int×Int→Int):(A.map fun p=>f p+g p).sum=(A.map f).sum+(A.map g).sum:=by
 induction A with
 |nil=>rfl
 |cons a A E=>simp only[cR,hA,E];omega
theorem Ee(A:List (Int×Int))(f g:Int×Int→Int)(h:∀p∈A,f p≤g p):(A.map f).sum≤(A.map g).sum:=by
 induction A with
 |nil=>simp
 |cons a A G=>simp only[cR,hA];have:=h a (by simp);have:=G (fun p E=>h p (by simp[E]));omega
theorem xH{A:List (Int×Int)}(M:A.Nodup)(f:Int×Int→Int×Int)(g:Int×Int→Int):∀(L:List (Int×Int)),(∀q∈L,f q∈A)→(A.map fun p=>((L.filter fun q=>decide (f q=p)).map g).sum).sum=(L.map g).sum
 |[],_=>by
  have:∀(A:List (Int×Int)),(A.map fun _=>(0:Int)).sum=0:=fun A=>by induction A with|nil=>rfl|cons a A G=>rw[cR,hA,G];rfl
  simpa using this A
 |q::L,h=>by
  have G:=xH M f g L (fun r O=>h r (by simp[O]))
  have e:(fun p=>(((q::L).filter fun q=>decide (f q=p)).map g).sum)=fun p=>(if f q=p then g q else 0)+((L.filter fun q=>decide (f q=p)).map g).sum:=by
   funext p;by_cases E:f q=p;·rw[List.filter_cons_of_pos (by simpa using E),if_pos E,cR,hA]
   ·rw[List.filter_cons_of_neg (by simpa using E),if_neg E];omega
  rw[e,xG,G,Ed M (h q (by simp)),cR,hA]
theorem xI{l:List Int}(h:l.Pairwise (·<·)){a b:Int}(G:a∈l)(M:b∈l)(ab:a<b):l.idxOf a<l.idxOf b:=by
 have h1:=vS G;have h2:=vS M;rcases b7 (l.idxOf a) (l.idxOf b)with A|A;·exact A
 ·exfalso;have O:l[l.idxOf a]=a:=vT h1;have Y:l[l.idxOf b]=b:=vT h2;rcases Nat.lt_or_eq_of_le A with E|E;·have:=mw.1 h (l.idxOf b) (l.idxOf a) h2 h1 E;omega
  ·have:l[l.idxOf b]=l[l.idxOf a]:=by simp only[E]
   omega
theorem Ef{A:List dY}{q:Int×Int}(h:q∈A.map fun e=>(e.a,e.b)):∃e∈A,(e.a,e.b)=q∧bG A q=e.cost:=by
 unfold bG;cases hf:A.find? (fun e=>decide ((e.a,e.b)=q))with
 |none=>exfalso;obtain⟨e,E,rfl⟩:=b6.1 h;have:=List.find?_eq_none.1 hf e E;simp at this
 |some e=>exact⟨e,BO hf,by simpa using Ki hf,rfl⟩
theorem rh{x:List aB}(G:WF x){i:Int}(E:0≤i)(h1:i<x.length)(O:0≤(nd x i).parent):i∈(nd x (nd x i).parent).kids:=by
 by_cases hz:i=0;·subst hz;have:=G.root _ (gV (x:=x) (i:=0) (by omega) h1);omega
 ·obtain⟨j,Y,g1,_,M,A⟩:=G.par i.toNat _ (gV E h1) (by omega);rw[M,nL g1];rw[Int.toNat_of_nonneg E]at A;exact A
theorem Eg{x y:List aB}(am:WF x)(hy:WF y)(G:List dY)(l:List (Int×Int))(Y:Good x y (kp x y) l l.length)(bN:∀q,q∈(G.map fun e=>(e.a,e.b))↔q∈l)(a9:∀e∈G,pT x y (bG G) e)(M:List (Int×Int))(c:Int)(bH:dP x y M=some c):bG G (0,0)≤c:=by
 have a5:(0,0)∈l:=by rw[Y.eq];simp
 have bJ:∀p∈l,∀q∈kp x y p,q∈l:=fun p A q E=>by rw[Y.eq,List.take_length];exact List.mem_cons_of_mem _ (hM.2 ⟨p,A,E⟩)
 have a3:∀p∈l,∃e∈G,(e.a,e.b)=p∧bG G p=e.cost:=fun p A=>Ef ((bN p).2 A);have bR:∀p∈l,0≤bG G p:=fun p A=>by obtain⟨e,aN,_,h2⟩:=a3 p A;obtain⟨ad,ci⟩:=a9 e aN;have:=ad.Eb;have:=mM (nd x e.a).text (nd y e.b).text;omega
 have ce:∀p∈l,(nd x p.1).size=1+(bL x p.1).sum:=fun p A=>mL am (Y.inr p A).1 (Y.inr p A).2.1;have cf:∀p∈l,(nd y p.2).size=1+(bL y p.2).sum:=fun p A=>mL hy (Y.inr p A).2.2.1 (Y.inr p A).2.2.2;have cm:(nd x 0).size=(x.length:Int):=am.kS;have cn:(nd y 0).size=(y.length:Int):=hy.kS;obtain⟨h1,h2,ad⟩:=tU x y M [] _ c bH (by simp[c6]);simp only[ji]at h2 ad
 have bd:∀p∈l,∀(C:List (Int×Int)),c6 C→(∀q∈C,q∈l∧q.1∈(nd x p.1).kids∧q.2∈(nd y p.2).kids∧(nd x q.1).kind=(nd y q.2).kind)→
   bG G p-(nd x p.1).size-(nd y p.2).size≤(cZ (nd x p.1).text (nd y p.2).text-2)+(C.map fun q=>bG G q-(nd x q.1).size-(nd y q.2).size).sum:=by
  intro p A C bE E;obtain⟨e,aN,aJ,ch⟩:=a3 p A;obtain⟨aL,bz⟩:=a9 e aN;have bA:e.a=p.1:=congrArg Prod.fst aJ;have bB:e.b=p.2:=congrArg Prod.snd aJ;rw[aJ]at aL;rw[bA,bB]at aL bz;have bm:=am.gU p.1.toNat _ (gV (Y.inr p A).1 (Y.inr p A).2.1);have bp:=hy.gU p.2.toNat _ (gV (Y.inr p A).2.2.1 (Y.inr p A).2.2.2)
  have ba:∀q∈C,wt (bL x p.1) (bL y p.2) (eA x y p (bG G)) ((nd x p.1).kids.idxOf q.1,(nd y p.2).kids.idxOf q.2)=bG G q-(nd x q.1).size-(nd y q.2).size∧
    (nd x p.1).kids.idxOf q.1<(bL x p.1).length∧(nd y p.2).kids.idxOf q.2<(bL y p.2).length∧0≤cg (eA x y p (bG G)) ((nd x p.1).kids.idxOf q.1) ((nd y p.2).kids.idxOf q.2):=by
   intro q aj;obtain⟨bY,aQ,aS,b0⟩:=E q aj;have ao:=vS aQ;have ax:=vS aS;have g1:(nd x p.1).kids[(nd x p.1).kids.idxOf q.1]=q.1:=vT ao;have aZ:(nd y p.2).kids[(nd y p.2).kids.idxOf q.2]=q.2:=vT ax;have c1:cg (eA x y p (bG G)) ((nd x p.1).kids.idxOf q.1) ((nd y p.2).kids.idxOf q.2)=bG G q:=by unfold cg eA;rw[dj ((nd x p.1).kids.map _) _ _ (by simpa using ao),eU,g1,dj _ _ _ (by simpa using ax),eU,aZ,if_pos b0]
   have bq:(bL x p.1).getD ((nd x p.1).kids.idxOf q.1) 0=(nd x q.1).size:=by unfold bL;rw[dj _ _ _ (by simpa using ao),eU,g1]
   have bv:(bL y p.2).getD ((nd y p.2).kids.idxOf q.2) 0=(nd y q.2).size:=by unfold bL;rw[dj _ _ _ (by simpa using ax),eU,aZ]
   refine⟨by simp only[wt];rw[c1,bq,bv],by simpa[bL]using ao,by simpa[bL]using ax,by rw[c1];exact bR q bY⟩
  have a2:=tT aL (C.map fun q=>((nd x p.1).kids.idxOf q.1,(nd y p.2).kids.idxOf q.2)) (by
   rw[mo];refine pj ?_ bE;intro a b O a1 aM;obtain⟨_,aQ,aS,_⟩:=E a O;obtain⟨_,b9,cc,_⟩:=E b a1;exact⟨xI bm aQ b9 aM.1,xI bp aS cc aM.2⟩) (by
   intro q aj;obtain⟨r,ak,rfl⟩:=b6.1 aj;exact(ba r ak).2)
  rw[List.map_map]at a2;have bT:(C.map (wt (bL x p.1) (bL y p.2) (eA x y p (bG G))∘fun q=>((nd x p.1).kids.idxOf q.1,(nd y p.2).kids.idxOf q.2)))=C.map fun q=>bG G q-(nd x q.1).size-(nd y q.2).size:=by apply jF;intro q aj;exact(ba q aj).1
  rw[bT]at a2;have:=ce p A;have:=cf p A;omega
 cases M with
 |nil=>have:=bd (0,0) a5 [] (by simp[c6]) (by simp);have:=mM (nd x 0).text (nd y 0).text;simp only[KS,List.sum_nil]at*;omega
 |cons r M=>
  have cd:=ad [] r M rfl;have ak:r=(0,0):=cd.2.2.2.2.2.1.2 rfl;subst ak
  have bX:∀a:List (Int×Int),(∀q∈a,q∈l)→-1≤(fe a).1∧-1≤(fe a).2:=by
   intro a O;rcases List.eq_nil_or_concat a with rfl|⟨a',z,rfl⟩;·simp[fe]
   ·have hz:=Y.inr z (O z (by simp));unfold fe bZ at*;rw[List.concat_eq_append,vR];omega
  have bg:∀a q b,(0,0)::M=a++q::b→(∀r∈a,r∈l)→a≠[]→fC x y q∈a∧q.1∈(nd x (fC x y q).1).kids∧q.2∈(nd y (fC x y q).2).kids∧(nd x q.1).kind=(nd y q.2).kind:=by
   intro a q b e O aP;have ab:=ad a q b e;have bS:q≠(0,0):=fun e=>aP (ab.2.2.2.2.2.1.1 e)
   have A:fC x y q∈a:=by
    rcases ab.2.2.2.2.2.2 with h|h;·exact absurd h bS
    ·exact h
   have a4:=Y.inr _ (O _ A);have a1:=bX a O;have cj:=ab.1;have cl:=ab.2.1;exact⟨A,rh am (by omega) ab.2.2.1 a4.1,rh hy (by omega) ab.2.2.2.1 a4.2.2.1,ab.2.2.2.2.1⟩
  have bI:∀(b a:List (Int×Int)),(0,0)::M=a++b→a≠[]→(∀q∈a,q∈l)→∀q∈(0,0)::M,q∈l:=by
   intro b;induction b with
   |nil=>intro a e _ O q E;rw[e,jG]at E;exact O q E
   |cons z b bV=>
    intro a e aP O;obtain⟨aX,ac,aG,aY⟩:=bg a z b e O aP;refine bV (a++[z]) (by rw[e];simp) (by simp) ?_;intro q E;rcases ev.1 E with E|E;·exact O q E
    ·simp only[eR]at E;subst E;refine bJ _ (O _ aX) q ?_;unfold kp;refine hM.2 ⟨q.1,ac,?_⟩;unfold fA;exact b6.2 ⟨q.2,lz.2 ⟨aG,by simpa using aY⟩,rfl⟩
  have aO:=bI M [(0,0)] rfl (by simp) (by intro q E;simp only[eR]at E;subst E;exact a5)
  have a8:∀q∈M,fC x y q∈(0,0)::M∧q.1∈(nd x (fC x y q).1).kids∧q.2∈(nd y (fC x y q).2).kids∧(nd x q.1).kind=(nd y q.2).kind:=by
   intro q E;obtain⟨a,b,e⟩:=List.append_of_mem E
   obtain⟨aX,ac⟩:=bg ((0,0)::a) q b (by rw[e];rfl) (fun r ak=>aO r (by
    rw[e];rcases b8.1 ak with h|h;·simp[h]
    ·simp[h])) (by simp)
   refine⟨?_,ac⟩;rw[e];rcases b8.1 aX with h|h;·rw[h];simp
   ·simp[h]
  have bO:((0,0)::M).Nodup:=by refine pk ?_ h2;intro a b aM e;subst e;omega
  have bC:c6 M:=(fJ.1 h2).2
  have aT:=Ee ((0,0)::M) (fun p=>bG G p-(nd x p.1).size-(nd y p.2).size) (fun p=>(cZ (nd x p.1).text (nd y p.2).text-2)+((M.filter fun q=>decide (fC x y q=p)).map fun q=>bG G q-(nd x q.1).size-(nd y q.2).size).sum) (by
   intro p A;refine bd p (aO p A) _ (vM _ bC) ?_;intro q E;obtain⟨q1,aV⟩:=lz.1 E;have aV:fC x y q=p:=by simpa using aV
   obtain⟨_,ac,aG,aY⟩:=a8 q q1;rw[aV]at ac aG;exact⟨aO q (by simp[q1]),ac,aG,aY⟩)
  rw[xG,xH bO (fC x y) _ M (fun q E=>(a8 q E).1)]at aT;rw[cR,hA]at aT;simp only at aT;omega
def iv(es:List dY)(q:Int×Int):dY:=(es.find? (fun e=>decide ((e.a,e.b)=q))).getD default
theorem Eh(A:List dY)(q:Int×Int):bG A q=(iv A q).cost:=by unfold bG iv;cases A.find? (fun e=>decide ((e.a,e.b)=q))<;>rfl
theorem xJ(e:dY)(A:List dY)(q:Int×Int):iv (e::A) q=if q=(e.a,e.b)then e else iv A q:=by
 unfold iv;by_cases h:(e.a,e.b)=q;·rw[List.find?_cons_of_pos (by simpa using h),if_pos h.symm];rfl
 ·rw[List.find?_cons_of_neg (by simpa using h),if_neg (fun e=>h e.symm)]
theorem tV(x y:List aB):∀(l:List (Int×Int)),(aQ x y l).map (fun e=>(e.a,e.b))=l
 |[]=>rfl
 |p::A=>by rw[aQ,cR,tV x y A];rfl
theorem pV(x y:List aB)(l:List (Int×Int)):(aQ x y l).length=l.length:=by have:=congrArg List.length (tV x y l);simpa using this
theorem tW(x y:List aB):∀(l:List (Int×Int)) (k:Nat) (A:k<l.length),(aQ x y l)[k]'(by rw[pV];exact A)=hT x y l[k] (bG (aQ x y (l.drop (k+1))))
 |p::E,0,_=>by simp[aQ]
 |p::E,k+1,A=>by simp only[aQ,dV,List.drop_succ_cons];exact tW x y E k (by simpa using A)
theorem xK(x y:List aB)(l:List (Int×Int))(k:Nat)(A:k<l.length):aQ x y (l.drop k)=hT x y l[k] (bG (aQ x y (l.drop (k+1))))::aQ x y (l.drop (k+1)):=by rw[jh A,aQ]
theorem xL(x y:List aB):∀(l:List (Int×Int)) (e:dY),e∈aQ x y l→∃p A,p∈l∧(∀q∈A,q∈l)∧e=hT x y p (bG (aQ x y A))
 |[],e,h=>by simp[aQ]at h
 |p::A,e,h=>by
  rw[aQ]at h;rcases b8.1 h with rfl|h;·exact⟨p,A,by simp,fun q E=>by simp[E],rfl⟩
  ·obtain⟨M,O,h1,h2,G⟩:=xL x y A e h;exact⟨M,O,by simp[h1],fun q E=>by simp[h2 q E],G⟩
theorem ri{x y:List aB}:∀{l:List (Int×Int)},l.Nodup→∀(k:Nat) (A:k<l.length),(aQ x y l)[k]'(by rw[pV];exact A)=iv (aQ x y l) l[k]
 |p::E,h,0,_=>by simp only[aQ,List.getElem_cons_zero];rw[xJ];exact(if_pos rfl).symm
 |p::E,h,k+1,A=>by
  rw[ny]at h;simp only[aQ,dV];rw[xJ,if_neg (fun e=>h.1 (by have:E[k]'(by simpa using A)=p:=e;rw[←this];simp))]
  exact ri h.2 k (by simpa using A)
theorem tX(x y:List aB)(l:List (Int×Int))(p:Int×Int):iv (aQ x y l) p=default∨∃A,(∀q∈A,q∈l)∧iv (aQ x y l) p=hT x y p (bG (aQ x y A)):=by
 cases hf:(aQ x y l).find? (fun e=>decide ((e.a,e.b)=p))with
 |none=>left;unfold iv;rw[hf];rfl
 |some e=>
  right;obtain⟨M,A,_,h2,E⟩:=xL x y l e (BO hf);have G:(e.a,e.b)=p:=by simpa using Ki hf
  have:M=p:=by rw[←G,E];rfl
  subst this;exact⟨A,h2,by unfold iv;rw[hf,E];rfl⟩
theorem rj(drop add:List Int)(cost:List (List Int)):∀(f i j:Nat),(bO drop add cost f i j).Pairwise (fun p q=>q.1<p.1∧q.2<p.2)
 |0,_,_=>by simp[bO]
 |f+1,i,j=>by
  rw[bO];split
  ·split;·rw[fJ];refine⟨fun q A=> ?_,rj drop add cost f (i-1) (j-1)⟩;have:=nO drop add cost f (i-1) (j-1) q A;simp only;omega
   ·split;·exact rj drop add cost f (i-1) j
    ·exact rj drop add cost f i (j-1)
  ·simp
theorem rk(drop add:List Int)(cost:List (List Int)):∀(f i j:Nat) (p:Int×Int),p∈bO drop add cost f i j→0≤cg cost p.1.toNat p.2.toNat
 |0,_,_,p,h=>by simp[bO]at h
 |f+1,i,j,p,h=>by
  rw[bO]at h;split at h
  ·split at h
   ·rename_i h1;rcases b8.1 h with rfl|h;·simp only[Int.toNat_natCast];exact h1.2.2.1
    ·exact rk drop add cost f (i-1) (j-1) p h
   ·split at h;·exact rk drop add cost f (i-1) j p h
    ·exact rk drop add cost f i (j-1) p h
  ·simp at h
theorem Ei(drop add:List Int)(cost:List (List Int)):c6 (e0 drop add cost).aR:=by unfold c6 e0;rw[List.pairwise_reverse];exact rj _ _ _ _ _ _
theorem Ej{drop add:List Int}{cost:List (List Int)}{k:Int×Int}(h:k∈(e0 drop add cost).aR):0≤k.1∧k.1<drop.length∧0≤k.2∧k.2<add.length∧0≤cg cost k.1.toNat k.2.toNat:=by simp only[e0,List.mem_reverse]at h;have h1:=nO _ _ _ _ _ _ k h;have h2:=rk _ _ _ _ _ _ k h;exact⟨h1.1,h1.2.1,h1.2.2.1,h1.2.2.2,h2⟩
def gC(x y:List aB)(p k:Int×Int):Int×Int:=((nd x p.1).kids.getD k.1.toNat 0,(nd y p.2).kids.getD k.2.toNat 0)
def ff(x y:List aB)(es:List dY)(p:Int×Int):List (Int×Int):=(iv es p).kids.aR.map (gC x y p)
theorem xM{x y:List aB}{p:Int×Int}{A:Int×Int→Int}{i j:Nat}(E:i<(nd x p.1).kids.length)(hj:j<(nd y p.2).kids.length):cg (eA x y p A) i j=if(nd x (nd x p.1).kids[i]).kind=(nd y (nd y p.2).kids[j]).kind then A ((nd x p.1).kids[i],(nd y p.2).kids[j])else-1:=by unfold cg eA;rw[dj ((nd x p.1).kids.map _) _ _ (by simpa using E),eU,dj _ _ _ (by simpa using hj),eU]
theorem pW{x y:List aB}{p:Int×Int}{O:Int×Int→Int}{k:Int×Int}(h:k∈(ju x y p O).aR):0≤k.1∧k.1<(nd x p.1).kids.length∧0≤k.2∧k.2<(nd y p.2).kids.length∧(gC x y p k).1∈(nd x p.1).kids∧(gC x y p k).2∈(nd y p.2).kids∧(nd x (gC x y p k).1).kind=(nd y (gC x y p k).2).kind:=by
 obtain⟨h1,h2,Y,G,M⟩:=Ej h;simp only[bL,List.length_map]at h2 G;have A:k.1.toNat<(nd x p.1).kids.length:=by omega
 have E:k.2.toNat<(nd y p.2).kids.length:=by omega
 rw[xM A E]at M;unfold gC;rw[dj _ _ _ A,dj _ _ _ E];refine⟨h1,h2,Y,G,aK A,aK E,?_⟩;split at M;·assumption
 ·omega
theorem xN{l:List Int}(h:l.Pairwise (·<·)){i j:Int}(A:0≤i)(E:i<j)(hj:j<l.length):l.getD i.toNat 0<l.getD j.toNat 0:=by rw[dj l _ _ (by omega),dj l _ _ (by omega)];exact mw.1 h _ _ (by omega) (by omega) (by omega)
theorem xO{x y:List aB}(ac:WF x)(hy:WF y)(l:List (Int×Int)){p:Int×Int}(A:bZ x y p):c6 (ff x y (aQ x y l) p):=by
 unfold ff;rcases tX x y l p with h|⟨ak,_,h⟩;·rw[h];simp[c6,default]
 ·rw[h];unfold c6;rw[mo];refine pj ?_ (Ei _ _ _:c6 (ju x y p _).aR);intro a b Y ab E;obtain⟨G,ad,M,aj,_⟩:=pW Y;obtain⟨b1,b2,b3,O,_⟩:=pW ab;exact⟨xN (ac.gU p.1.toNat _ (gV A.1 A.2.1)) G E.1 b2,xN (hy.gU p.2.toNat _ (gV A.2.2.1 A.2.2.2)) M E.2 O⟩
theorem rm{x y:List aB}(l:List (Int×Int)){p q:Int×Int}(A:q∈ff x y (aQ x y l) p):q∈kp x y p:=by
 unfold ff at A;rcases tX x y l p with h|⟨O,_,h⟩;·rw[h]at A;simp[default]at A
 ·rw[h]at A;obtain⟨k,M,rfl⟩:=b6.1 A;obtain⟨_,_,_,_,E,G,h7⟩:=pW M;unfold kp;refine hM.2 ⟨_,E,?_⟩;unfold fA;exact b6.2 ⟨_,lz.2 ⟨G,by simpa using h7⟩,rfl⟩
theorem rp{x y:List aB}(E:WF x)(hy:WF y)(l:List (Int×Int)):KF x y (ff x y (aQ x y l)):=by refine⟨fun p A q G=>(q7 E hy).inr p A q (rm l G),fun p A=> ?_⟩;refine pk ?_ (xO E hy l A);intro a b M e;subst e;omega
theorem Ek:(default:dY).kids.aR=[]:=rfl
def pX(x y:List aB)(l:List (Int×Int)):List (Int×Int):=(ez (ff x y (aQ x y l)) (x.length*y.length) (x.length*y.length+1) [(0,0)] 0).getD []
def iO(x y:List aB)(l:List (Int×Int)):kd:=
 {aR:=cq (pX x y l),cost:=((aQ x y l).getD 0 default).cost,gT:=true,a7:=((aQ x y l).getD 0 default).cost,proof:=aQ x y l}
section
variable {P:Program} {md:sy} {ops:Array Oper} {Q:Exit→Act→World→Prop} {S:World→Prop} {n:Nat}
def jq(P:Program)(md:sy)(ops:Array Oper)(Q:Exit→Act→World→Prop)(S:World→Prop)(n:Nat):Nat→Array Bool→Act→World→Prop
 |0,l,a,w=>jE md ops l=[]∧Q .normal a w
 |f+1,l,a,w=>(jE md ops l=[]→Q .normal a w)∧
  ∀i∈jE md ops l,wpOp P ops Q i (fun a' w'=>((l.setIfInBounds i true).getD n true=false→S w')∧jq P md ops Q S n f (l.setIfInBounds i true) a' w') a w
theorem wQ:∀(f:Nat) (l:Array Bool) (a:Act) (w:World),jq P md ops Q S n f l a w→wpAny P md ops Q f l a w
 |0,_,_,_,h=>h
 |f+1,_,_,_,h=>⟨h.1,fun i A=>wpOp_mono (fun a' w' h'=>wQ f _ a' w' h'.2) (h.2 i A)⟩
theorem CY{i:Nat}{G:Oper}{v:Value}(aG:ops[i]? =some G)(aQ:∀(j:Nat) (o:Oper) cs b,ops[j]? =some o→o.op≠.select cs b)(aX:∀c a w,Q (.panic c) (a.put G.dst v) w→Q (.panic c) a w)(aV:BA md ops n i=true):
  ∀(f:Nat) (l:Array Bool) (a:Act) (w:World),
   (∀j M,ops[j]? =some M→j≠i→l.getD j true=false→(∀e∈M.after,oq md e=true→e.on≠i)→G.apart ops M=true)→
   i∈jE md ops l→YieldsIf P ops S G v a→l.getD n true=false→S w→
   jq P md ops Q S n f (l.setIfInBounds i true) (a.put G.dst v) w→jq P md ops Q S n (f+1) l a w:=by
 intro f;induction f with
 |zero=>
  intro l a w _ A hy _ O H;refine⟨fun h=>(by rw[h]at A;cases A),fun j hj=> ?_⟩;rcases vG j i with e|e;·have h2:=ready_mono hj e;rw[H.1]at h2;cases h2
  ·subst e;exact hy.wpOp aG O ⟨fun _=>O,H⟩
 |succ f a8=>
  intro l a w aL A hy aN O H;have ba:∀(k:Nat),l.getD k true=true→k≠i:=fun k ak e=>by have E:=(mem_ready.1 A).1;rw[e,E]at ak;cases ak
  refine⟨fun h=>(by rw[h]at A;cases A),fun j hj=> ?_⟩;rcases vG j i with e|e
  ·obtain⟨aM,M,ao,aZ⟩:=mem_ready.1 hj
   have aO:∀x∈M.after,oq md x=true→x.on≠i:=fun x ab Y a1=>by
    have h1:=aZ x ab Y;have E:=(mem_ready.1 A).1;rw[a1]at h1;rcases b7 i l.size with h'|h';·simp[h']at E h1;rw[E]at h1;cases h1
    ·simp[iF h']at h1
   have aj:j≠n:=fun aj=>by obtain⟨a9,am,x,ab,Y,aJ⟩:=Kc aV;rw[←aj,ao]at am;cases am;exact aO x ab Y aJ
   have a5:(l.setIfInBounds j true).getD n true=false:=by rw[vH true aj];exact aN
   have aS:((l.setIfInBounds i true).setIfInBounds j true).getD n true=false:=by
    rw[vH true aj];rcases vG i n with ax|ax;·rw[vH true ax];exact aN
    ·exfalso;obtain⟨a9,am,x,ab,Y,aJ⟩:=Kc aV;obtain⟨_,bd,aP,aY⟩:=mem_ready.1 A;rw[ax,am]at aP;cases aP;have h1:=aY x ab Y;have E:=(mem_ready.1 A).1;rw[aJ]at h1;rcases b7 i l.size with h'|h';·simp[h']at E h1;rw[E]at h1;cases h1
     ·simp[iF h']at h1
   have h2:=wpOp_putIf ao (aL j M ao e aM aO) (fun cs b=>aQ i G cs b aG) (fun cs b=>aQ j M cs b ao) aX hy (H.2 j (ready_mono hj e))
   have a2:∀k ac,ops[k]? =some ac→k≠i→(l.setIfInBounds j true).getD k true=false→(∀x∈ac.after,oq md x=true→x.on≠i)→G.apart ops ac=true:=fun k ac ak a3 aT a4=>by
    refine aL k ac ak a3 ?_ a4;rcases vG j k with aB|aB;·rw[vH true aB]at aT;exact aT
    ·subst aB;exact aM
   refine wpOp_mono (fun a' w' ad=>⟨fun _=>ad.2.1 aS,a8 (l.setIfInBounds j true) a' w' a2 (ready_mono A (Ne.symm e)) ad.1 a5 (ad.2.1 aS) ?_⟩) h2;rw[Array.setIfInBounds_comm _ _ e];exact ad.2.2
  ·subst e;exact hy.wpOp aG O ⟨fun _=>O,H⟩
theorem CZ{i:Nat}{A:Oper}{v:Value}{f:Nat}{l:Array Bool}{a:Act}{w:World}(E:ops[i]? =some A)(ac:BB ops=true)(O:BC md ops l i=true)(ab:(jE md ops l).contains i=true)(ad:BA md ops n i=true)(Y:l.getD n true=false)(G:∀c a w,Q (.panic c) (a.put A.dst v) w→Q (.panic c) a w)(hy:YieldsIf P ops S A v a)(M:S w)(h:jq P md ops Q S n f (l.setIfInBounds i true) (a.put A.dst v) w):jq P md ops Q S n (f+1) l a w:=
 CY E (Region.noSelect_spec ac) G ad f l a w (Region.free_spec E O) (by simpa using ab) hy Y M h
def aZ(P:Program)(md:sy)(ops:Array Oper)(Q:Exit→Act→World→Prop)(S:World→Prop)(n f:Nat)(l:Array Bool)(a:Act)(w:World)(rs:List Nat):Prop:=
 ∀i∈rs,wpOp P ops Q i (fun a' w'=>((l.setIfInBounds i true).getD n true=false→S w')∧jq P md ops Q S n f (l.setIfInBounds i true) a' w') a w
theorem aZ.nil{f:Nat}{l:Array Bool}{a:Act}{w:World}:aZ P md ops Q S n f l a w []:=fun _ h=>by cases h
theorem aZ.cons{f:Nat}{l:Array Bool}{a:Act}{w:World}{i:Nat}{o:Oper}{rs:List Nat}(O:ops[i]? =some o)(h:∀A:Act→World→Prop,Shut (∀a w,((l.setIfInBounds i true).getD n true=false→S w)→jq P md ops Q S n f (l.setIfInBounds i true) a w→A a w)→if ox o (yielded ops a.tmps)=true then Oper.wp P o a w A Q else A (a.put o.dst undef) w)(Y:aZ P md ops Q S n f l a w rs):aZ P md ops Q S n f l a w (i::rs):=fun j hj=>by
 rcases b8.1 hj with rfl|hj;·exact wpOp_step O (fun A E=>h A (fun a w G M=>E a w ⟨G,M⟩))
 ·exact Y j hj
theorem cE{rs:List Nat}{f:Nat}{l:Array Bool}{a:Act}{w:World}(A:jE md ops l=rs)(G:rs≠[])(h:aZ P md ops Q S n f l a w rs):jq P md ops Q S n (f+1) l a w:=⟨fun E=>absurd (A▸E) G,A▸h⟩
theorem lK{l:Array Bool}{a:Act}{w:World}(A:jE md ops l=[])(h:Q .normal a w):∀f,jq P md ops Q S n f l a w
 |0=>⟨A,h⟩
 |_+1=>⟨fun _=>h,by rw[A];simp⟩
theorem nE{G:Nat}{a:Act}{w:World}(E:P.follows .mixedOrders=true)(A:S w.drew)(h:S w.drew→jq P .any ops Q S n ops.size (Array.replicate ops.size false) a w.drew):(Code.region G ops true).wp P Q a w:=
 wp_region_any E (wQ _ _ _ _ (h A))
def nx:Nat→List Bool→Nat
 |0,false::_=>0
 |0,true::l=>nx 0 l+1
 |k+1,_::l=>nx k l+1
 |_,[]=>0
def wR(md:sy)(ops:Array Oper)(n:Nat)(l:Array Bool)(i:Nat):Bool:=
 BB ops&&BC md ops l i&&(jE md ops l).contains i&&BA md ops n i&& !(l.getD n true)
theorem iL(k:Nat){A:Oper}{v:Value}{f:Nat}{l:List Bool}{a:Act}{w:World}(ac:ops[nx k l]? =some A)(E:wR md ops n l.toArray (nx k l)=true)(Y:∀c a w,Q (.panic c) (a.put A.dst v) w→Q (.panic c) a w)(aj:ox A (yielded ops a.tmps)=true)(ab:S w)(ad:∀w,S w→(execOp a.eval A).run P w= .ok (.value v) w)(h:jq P md ops Q S n f (l.set (nx k l) true).toArray (a.put A.dst v) w):jq P md ops Q S n (f+1) l.toArray a w:=by simp only[wR,cy,Bool.not_eq_true']at E;obtain⟨⟨⟨⟨h1,h2⟩,G⟩,M⟩,O⟩:=E;exact CZ ac h1 h2 G M O Y (.inl ⟨aj,ad⟩) ab (by rw[bh];exact h)
def qV(md:sy)(ops:Array Oper)(l:Array Bool)(i:Nat):Bool:=
 BB ops&&BC md ops l i&&(jE md ops l).contains i
theorem nF(k:Nat){A:Oper}{v:Value}{f:Nat}{l:List Bool}{a:Act}{w:World}(O:ops[nx k l]? =some A)(E:qV md ops l.toArray (nx k l)=true)(G:∀c a w,Q (.panic c) (a.put A.dst v) w→Q (.panic c) a w)(ab:ox A (yielded ops a.tmps)=true)(M:S w)(Y:∀w,S w→(execOp a.eval A).run P w= .ok (.value v) w)(h:wpAnyH P md ops Q S f (l.set (nx k l) true).toArray (a.put A.dst v) w):wpAnyH P md ops Q S (f+1) l.toArray a w:=by simp only[qV,cy]at E;exact wpAnyH_take O E.1.1 E.1.2 E.2 G (.inl ⟨ab,Y⟩) M (by rw[bh];exact h)
theorem tc(k:Nat){E:Oper}{f:Nat}{l:List Bool}{a:Act}{w:World}(O:ops[nx k l]? =some E)(A:qV md ops l.toArray (nx k l)=true)(G:∀c a w,Q (.panic c) (a.put E.dst undef) w→Q (.panic c) a w)(Y:ox E (yielded ops a.tmps)=false)(M:S w)(h:wpAnyH P md ops Q S f (l.set (nx k l) true).toArray (a.put E.dst undef) w):wpAnyH P md ops Q S (f+1) l.toArray a w:=by simp only[qV,cy]at A;exact wpAnyH_take O A.1.1 A.1.2 A.2 G (.inr ⟨Y,rfl⟩) M (by rw[bh];exact h)
end
end Go.Proofs.YtdplggpbgommnaaGreatDoor
