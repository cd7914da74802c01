/- Certificates in plain words: the cost of an alignment, its potentials; and that no alignment is cheaper. -/
import Derived.Test.YtdplggpbgommnaaGreatDoorG04
open Array renaming getElem?_eq_none->iF
open Bool renaming and_eq_true->cy
open Go renaming getD_set_ne->vH
open Go.Region renaming Mode->sy,binds->oq,free->BC,noSelect->BB,ready->jE,waitsFor_spec->Kc,waitsFor->BA,wanted->ox
open List renaming append_nil->jG,drop_eq_getElem_cons->jh,drop_length->K2,drop_zero->BU,find?_some->Ki,getElem?_eq_none->gM,getElem_cons_succ->dV,getElem_idxOf->vT,getElem_map->eU,getElem_mem->aK,getLastD_concat->vR,idxOf_lt_length_of_mem->vS,map_congr_left->jF,map_cons->cR,map_nil->KS,mem_append->xm,mem_cons->b8,mem_filter->lz,mem_flatMap->hM,mem_map->b6,mem_of_find?_eq_some->BO,mem_singleton->eR,nil_append->ji,nodup_cons->ny,pairwise_append->qE,pairwise_cons->fJ,pairwise_iff_getElem->K3,pairwise_map->mo,setIfInBounds_toArray->bh,sum_cons->GS
open List.Pairwise renaming filter->vM,imp_of_mem->pj,imp->pk
open List.cons renaming injEq->ii
open Nat renaming decEq->vG,lt_or_ge->b7
open Option.some renaming injEq->aC
namespace Go.Proofs.YtdplggpbgommnaaGreatDoor
open Go.RowKit
def cg(cost:List (List Int))(i j:Nat):Int:=(cost.getD i []).getD j 0
def pS(drop add:List Int)(cost:List (List Int))(last p:Int×Int):Prop:=last.1<p.1/\last.2<p.2/\p.1<drop.length/\p.2<add.length/\0<=cg cost p.1.toNat p.2.toNat
instance(drop add:List Int)(cost:List (List Int))(last p:Int×Int):Decidable (pS drop add cost last p):=by unfold pS;infer_instance
def iu(drop add:List Int)(cost:List (List Int)):Int×Int->List (Int×Int)->Int->Option Int
 |_,[],s=>some s
 |last,p::ps,s=>if pS drop add cost last p then iu drop add cost p ps (s+(cg cost p.1.toNat p.2.toNat-drop.getD p.1.toNat 0-add.getD p.2.toNat 0))else none
def tR(drop add:List Int)(cost:List (List Int))(aR:List (Int×Int)):Option Int:=if jt drop add cost=true then iu drop add cost (-1,-1) aR (drop.sum+add.sum)else none
def nQ(drop add:List Int)(cost:List (List Int))(bM:List (List Int))(i j:Nat):Prop:=
 (i<drop.length->cg bM (i+1) j<=cg bM i j+drop.getD i 0)/\(j<add.length->cg bM i (j+1)<=cg bM i j+add.getD j 0)/\(i<drop.length->j<add.length->0<=cg cost i j->cg bM (i+1) (j+1)<=cg bM i j+cg cost i j)
instance(drop add:List Int)(cost bM:List (List Int))(i j:Nat):Decidable (nQ drop add cost bM i j):=by unfold nQ;infer_instance
def rc(n:Nat)(r:List Int):Prop:=r.length=n/\gz 0 1099511627776 r=true
instance(n:Nat)(r:List Int):Decidable (rc n r):=by unfold rc;infer_instance
def nR(drop add:List Int)(cost:List (List Int))(x:jr):Prop:=
 tR drop add cost x.aR=some x.cost/\x.bM.length=drop.length+1/\(∀r∈x.bM,rc (add.length+1) r)/\cg x.bM 0 0=0/\cg x.bM drop.length add.length=x.cost/\∀i,i<drop.length+1->∀j,j<add.length+1->nQ drop add cost x.bM i j
instance(drop add:List Int)(cost:List (List Int))(x:jr):Decidable (nR drop add cost x):=by unfold nR;infer_instance
def pT(x y:List aB)(dm:Int×Int->Int)(e:dY):Prop:=
 nR (bL x e.a) (bL y e.b) (eA x y (e.a,e.b) dm) e.kids/\e.cost=cZ (nd x e.a).text (nd y e.b).text+e.kids.cost
instance(x y:List aB)(dm:Int×Int->Int)(e:dY):Decidable (pT x y dm e):=by unfold pT;infer_instance
def tS(x y:List aB)(m:kd):Prop:=
 (fB x y m.proof.length).map cq=some (m.proof.map fun e=>(e.a,e.b))/\(∀e∈m.proof,pT x y (bG m.proof) e)/\(m.proof.getD 0 default).cost=m.cost
instance(x y:List aB)(m:kd):Decidable (tS x y m):=by unfold tS;infer_instance
def pU(x y:List aB)(m:kd):Prop:=
 dP x y m.aR=some m.cost/\m.a7<=m.cost/\(m.gT=true->m.a7=m.cost/\if(nd x 0).kind=(nd y 0).kind then tS x y m else m.proof=[]/\m.aR=[])
instance(x y:List aB)(m:kd):Decidable (pU x y m):=by unfold pU;infer_instance
section dual
variable {drop add:List Int} {cost bM:List (List Int)}
theorem re(l:List Int)(i:Nat)(h:i<l.length):(l.drop i).sum=l.getD i 0+(l.drop (i+1)).sum:=by rw[jh h,GS,vL l i 0 h]
theorem down(h:∀i,i<drop.length+1->∀j,j<add.length+1->nQ drop add cost bM i j):∀(k i j:Nat),i+k<=drop.length->j<=add.length->cg bM (i+k) j+(drop.drop (i+k)).sum<=cg bM i j+(drop.drop i).sum
 |0,i,j,_,_=>by simp
 |k+1,i,j,h1,h2=>by have a:=(h i (by omega) j (by omega)).1 (by omega);have b:=down h k (i+1) j (by omega) h2;rw[show i+1+k=i+(k+1) by omega]at b;have c:=re drop i (by omega);omega
theorem right(h:∀i,i<drop.length+1->∀j,j<add.length+1->nQ drop add cost bM i j):∀(k i j:Nat),i<=drop.length->j+k<=add.length->cg bM i (j+k)+(add.drop (j+k)).sum<=cg bM i j+(add.drop j).sum
 |0,i,j,_,_=>by simp
 |k+1,i,j,h1,h2=>by have a:=(h i (by omega) j (by omega)).2.1 (by omega);have b:=right h k i (j+1) h1 (by omega);rw[show j+1+k=j+(k+1) by omega]at b;have c:=re add j (by omega);omega
def wt(drop add:List Int)(cost:List (List Int))(q:Nat×Nat):Int:=cg cost q.1 q.2-drop.getD q.1 0-add.getD q.2 0
theorem xF(h:∀i,i<drop.length+1->∀j,j<add.length+1->nQ drop add cost bM i j):∀(O:List (Nat×Nat)) (i j:Nat),i<=drop.length->j<=add.length->O.Pairwise (fun p q=>p.1<q.1/\p.2<q.2)->(∀q∈O,i<=q.1/\j<=q.2/\q.1<drop.length/\q.2<add.length/\0<=cg cost q.1 q.2)->cg bM drop.length add.length<=cg bM i j+(drop.drop i).sum+(add.drop j).sum+(O.map (wt drop add cost)).sum
 |[],i,j,h1,h2,_,_=>by have a:=down h (drop.length-i) i j (by omega) h2;have b:=right h (add.length-j) drop.length j (by omega) (by omega);rw[show i+(drop.length-i)=drop.length by omega,K2]at a;rw[show j+(add.length-j)=add.length by omega,K2]at b;simp only[KS,List.sum_nil]at*;omega
 |(G,J)::O,i,j,h1,h2,hp,hq=>by
  rw[fJ]at hp;obtain⟨ak,am,Y,ab,aj⟩:=hq (G,J) (by simp);simp only at ak am Y ab aj;have a:=down h (G-i) i j (by omega) h2;have b:=right h (J-j) G j (by omega) (by omega);rw[show i+(G-i)=G by omega]at a;rw[show j+(J-j)=J by omega]at b;have c:=(h G (by omega) J (by omega)).2.2 Y ab aj;have d:=xF h O (G+1) (J+1) (by omega) (by omega) hp.2 (fun q hm=>by obtain⟨b1,b2,b3,ao,ax⟩:=hq q (by simp[hm]);have:=hp.1 q hm;simp only at this;exact⟨by omega,by omega,b3,ao,ax⟩)
  have e:=re drop G Y;have f:=re add J ab;rw[cR,GS];simp only[wt];omega
theorem tT{x:jr}(h:nR drop add cost x)(G:List (Nat×Nat))(hp:G.Pairwise (fun p q=>p.1<q.1/\p.2<q.2))(J:∀q∈G,q.1<drop.length/\q.2<add.length/\0<=cg cost q.1 q.2):x.cost<=drop.sum+add.sum+(G.map (wt drop add cost)).sum:=by obtain⟨_,_,_,O,h1,h2⟩:=h;have:=xF h2 G 0 0 (by omega) (by omega) hp (fun q hm=>by have:=J q hm;omega);rw[BU,BU]at this;omega
theorem Ea{n:Nat}{bM:List (List Int)}(h:∀r∈bM,rc n r)(i j:Nat):0<=cg bM i j/\cg bM i j<=1099511627776:=by
 unfold cg;rcases b7 i bM.length with G|G
 ·rw[vL bM i [] G];have hr:=(h _ (aK G)).2;rw[pQ]at hr;rcases b7 j bM[i].length with hj|hj;·rw[vL _ j 0 hj];exact hr _ (aK hj)
  ·simp[List.getD,gM hj]
 ·simp[List.getD,gM G]
theorem nR.Eb{x:jr}(h:nR drop add cost x):0<=x.cost:=by obtain⟨_,_,h1,_,h2,_⟩:=h;rw[<-h2];exact(Ea h1 _ _).1
end dual
def c6(l:List (Int×Int)):Prop:=l.Pairwise fun p q=>p.1<q.1/\p.2<q.2
theorem Ec{l:List (Int×Int)}{p:Int×Int}(h:c6 l)(J:l≠[]->(fe l).1<p.1/\(fe l).2<p.2):c6 (l++[p]):=by
 unfold c6 at*;rw[qE];refine⟨h,by simp,?_⟩;intro q G r hr;simp only[eR]at hr;subst hr;have O:l≠[]:=fun e=>by subst e;simp at G
 have J:=J O;obtain⟨l',z,rfl⟩:∃l' z,l=l'++[z]:=⟨l.dropLast,l.getLast O,(List.dropLast_concat_getLast O).symm⟩
 unfold fe at J;rw[vR]at J;rcases xm.1 G with G|G;·rw[qE]at h;have:=h.2.2 q G z (by simp);omega
 ·simp only[eR]at G;subst G;exact J
theorem tU(x y:List aB):∀(ps pre:List (Int×Int)) (c r:Int),gB x y pre ps c=some r->c6 pre->r=c+(ps.map fun p=>cZ (nd x p.1).text (nd y p.2).text-2).sum/\c6 (pre++ps)/\∀a p b,ps=a++p::b->kg x y (pre++a) p
 |[],pre,c,r,h,ha=>by simp only[gB,aC]at h;refine⟨by simp[h],by simpa using ha,fun a p b e=>by simp at e⟩
 |p::ps,pre,c,r,h,ha=>by
  rw[gB]at h;split at h;case isFalse=>cases h
  rename_i ok;obtain⟨h1,h2,G⟩:=tU x y ps (pre++[p]) _ r h (Ec ha fun _=>⟨ok.1,ok.2.1⟩);refine⟨by rw[h1,cR,GS];omega,by simpa using h2,?_⟩;intro a q b e;cases a with
  |nil=>simp only[ji,ii]at e;rw[jG,<-e.1];exact ok
  |cons a0 a=>simp only[List.cons_append,ii]at e;have:=G a q b e.2;rw[<-e.1];simpa using this
def fC(x y:List aB)(q:Int×Int):Int×Int:=((nd x q.1).parent,(nd y q.2).parent)
theorem Ed{M:List (Int×Int)}(hn:M.Nodup){z:Int×Int}(hz:z∈M)(v:Int):(M.map fun p=>if z=p then v else 0).sum=v:=by
 induction M with
 |nil=>simp at hz
 |cons a M G=>
  rw[ny]at hn;rw[cR,GS];by_cases e:z=a
  ·subst e;have:(M.map fun p=>if z=p then v else 0)=M.map fun _=>0:=by apply jF;intro p hp;rw[if_neg (fun e:z=p=>hn.1 (by rw[e];exact hp))]
   rw[if_pos rfl,this];have:∀(M:List (Int×Int)),(M.map fun _=>(0:Int)).sum=0:=fun M=>by induction M with|nil=>rfl|cons a M G=>rw[cR,GS,G];rfl
   rw[this];omega
  ·rw[if_neg e,G hn.2 (by rcases b8.1 hz with h|h;exact absurd h e;exact h)];omega
theorem xG(M:List (Int×Int))(f g:Int×Int->Int):(M.map fun p=>f p+g p).sum=(M.map f).sum+(M.map g).sum:=by
 induction M with
 |nil=>rfl
 |cons a M G=>simp only[cR,GS,G];omega
theorem Ee(M:List (Int×Int))(f g:Int×Int->Int)(h:∀p∈M,f p<=g p):(M.map f).sum<=(M.map g).sum:=by
 induction M with
 |nil=>simp
 |cons a M G=>simp only[cR,GS];have:=h a (by simp);have:=G (fun p hp=>h p (by simp[hp]));omega
theorem xH{M:List (Int×Int)}(hn:M.Nodup)(f:Int×Int->Int×Int)(g:Int×Int->Int):∀(L:List (Int×Int)),(∀q∈L,f q∈M)->(M.map fun p=>((L.filter fun q=>decide (f q=p)).map g).sum).sum=(L.map g).sum
 |[],_=>by
  have:∀(M:List (Int×Int)),(M.map fun _=>(0:Int)).sum=0:=fun M=>by induction M with|nil=>rfl|cons a M G=>rw[cR,GS,G];rfl
  simpa using this M
 |q::L,h=>by
  have G:=xH hn f g L (fun r hr=>h r (by simp[hr]))
  have e:(fun p=>(((q::L).filter fun q=>decide (f q=p)).map g).sum)=fun p=>(if f q=p then g q else 0)+((L.filter fun q=>decide (f q=p)).map g).sum:=by
   funext p;by_cases hp:f q=p;·rw[List.filter_cons_of_pos (by simpa using hp),if_pos hp,cR,GS]
   ·rw[List.filter_cons_of_neg (by simpa using hp),if_neg hp];omega
  rw[e,xG,G,Ed hn (h q (by simp)),cR,GS]
theorem xI{l:List Int}(h:l.Pairwise (·<·)){a b:Int}(ha:a∈l)(O:b∈l)(aj:a<b):l.idxOf a<l.idxOf b:=by
 have h1:=vS ha;have h2:=vS O;rcases b7 (l.idxOf a) (l.idxOf b)with G|G;·exact G
 ·exfalso;have Y:l[l.idxOf a]=a:=vT h1;have ab:l[l.idxOf b]=b:=vT h2;rcases Nat.lt_or_eq_of_le G with J|J;·have:=K3.1 h (l.idxOf b) (l.idxOf a) h2 h1 J;omega
  ·have:l[l.idxOf b]=l[l.idxOf a]:=by simp only[J]
   omega
theorem Ef{es:List dY}{q:Int×Int}(h:q∈es.map fun e=>(e.a,e.b)):∃e∈es,(e.a,e.b)=q/\bG es q=e.cost:=by
 unfold bG;cases hf:es.find? (fun e=>decide ((e.a,e.b)=q))with
 |none=>exfalso;obtain⟨e,he,rfl⟩:=b6.1 h;have:=List.find?_eq_none.1 hf e he;simp at this
 |some e=>exact⟨e,BO hf,by simpa using Ki hf,rfl⟩
theorem rh{x:List aB}(hx:WF x){i:Int}(J:0<=i)(h1:i<x.length)(hp:0<=(nd x i).parent):i∈(nd x (nd x i).parent).kids:=by
 by_cases hz:i=0;·subst hz;have:=hx.root _ (gV (x:=x) (i:=0) (by omega) h1);omega
 ·obtain⟨j,Y,g1,_,O,G⟩:=hx.par i.toNat _ (gV J h1) (by omega);rw[O,nL g1];rw[Int.toNat_of_nonneg J]at G;exact G
theorem Eg{x y:List aB}(hx:WF x)(hy:WF y)(es:List dY)(l:List (Int×Int))(J:Good x y (kp x y) l l.length)(bm:∀q,q∈(es.map fun e=>(e.a,e.b))↔q∈l)(hv:∀e∈es,pT x y (bG es) e)(M:List (Int×Int))(c:Int)(ba:dP x y M=some c):bG es (0,0)<=c:=by
 have aV:(0,0)∈l:=by rw[J.eq];simp
 have bg:∀p∈l,∀q∈kp x y p,q∈l:=fun p hp q G=>by rw[J.eq,List.take_length];exact List.mem_cons_of_mem _ (hM.2 ⟨p,hp,G⟩)
 have aS:∀p∈l,∃e∈es,(e.a,e.b)=p/\bG es p=e.cost:=fun p hp=>Ef ((bm p).2 hp);have bq:∀p∈l,0<=bG es p:=fun p hp=>by obtain⟨e,he,_,h2⟩:=aS p hp;obtain⟨Y,bR⟩:=hv e he;have:=Y.Eb;have:=mM (nd x e.a).text (nd y e.b).text;omega
 have bJ:∀p∈l,(nd x p.1).size=1+(bL x p.1).sum:=fun p hp=>mL hx (J.inr p hp).1 (J.inr p hp).2.1;have bN:∀p∈l,(nd y p.2).size=1+(bL y p.2).sum:=fun p hp=>mL hy (J.inr p hp).2.2.1 (J.inr p hp).2.2.2;have bV:(nd x 0).size=(x.length:Int):=hx.kS;have bX:(nd y 0).size=(y.length:Int):=hy.kS;obtain⟨h1,h2,Y⟩:=tU x y M [] _ c ba (by simp[c6]);simp only[ji]at h2 Y
 have key:∀p∈l,∀(C:List (Int×Int)),c6 C->(∀q∈C,q∈l/\q.1∈(nd x p.1).kids/\q.2∈(nd y p.2).kids/\(nd x q.1).kind=(nd y q.2).kind)->
   bG es p-(nd x p.1).size-(nd y p.2).size<=(cZ (nd x p.1).text (nd y p.2).text-2)+(C.map fun q=>bG es q-(nd x q.1).size-(nd y q.2).size).sum:=by
  intro p hp C a9 G;obtain⟨e,he,am,bO⟩:=aS p hp;obtain⟨ao,a4⟩:=hv e he;have a5:e.a=p.1:=congrArg Prod.fst am;have a8:e.b=p.2:=congrArg Prod.snd am;rw[am]at ao;rw[a5,a8]at ao a4;have aZ:=hx.gU p.1.toNat _ (gV (J.inr p hp).1 (J.inr p hp).2.1);have a1:=hy.gU p.2.toNat _ (gV (J.inr p hp).2.2.1 (J.inr p hp).2.2.2)
  have hw:∀q∈C,wt (bL x p.1) (bL y p.2) (eA x y p (bG es)) ((nd x p.1).kids.idxOf q.1,(nd y p.2).kids.idxOf q.2)=bG es q-(nd x q.1).size-(nd y q.2).size/\
    (nd x p.1).kids.idxOf q.1<(bL x p.1).length/\(nd y p.2).kids.idxOf q.2<(bL y p.2).length/\0<=cg (eA x y p (bG es)) ((nd x p.1).kids.idxOf q.1) ((nd y p.2).kids.idxOf q.2):=by
   intro q hm;obtain⟨bB,aL,aM,bC⟩:=G q hm;have ab:=vS aL;have aj:=vS aM;have g1:(nd x p.1).kids[(nd x p.1).kids.idxOf q.1]=q.1:=vT ab;have g2:(nd y p.2).kids[(nd y p.2).kids.idxOf q.2]=q.2:=vT aj;have c1:cg (eA x y p (bG es)) ((nd x p.1).kids.idxOf q.1) ((nd y p.2).kids.idxOf q.2)=bG es q:=by unfold cg eA;rw[vL ((nd x p.1).kids.map _) _ _ (by simpa using ab),eU,g1,vL _ _ _ (by simpa using aj),eU,g2,if_pos bC]
   have a2:(bL x p.1).getD ((nd x p.1).kids.idxOf q.1) 0=(nd x q.1).size:=by unfold bL;rw[vL _ _ _ (by simpa using ab),eU,g1]
   have a3:(bL y p.2).getD ((nd y p.2).kids.idxOf q.2) 0=(nd y q.2).size:=by unfold bL;rw[vL _ _ _ (by simpa using aj),eU,g2]
   refine⟨by simp only[wt];rw[c1,a2,a3],by simpa[bL]using ab,by simpa[bL]using aj,by rw[c1];exact bq q bB⟩
  have hd:=tT ao (C.map fun q=>((nd x p.1).kids.idxOf q.1,(nd y p.2).kids.idxOf q.2)) (by
   rw[mo];refine pj ?_ a9;intro a b ha aQ ax;obtain⟨_,aL,aM,_⟩:=G a ha;obtain⟨_,bE,bH,_⟩:=G b aQ;exact⟨xI aZ aL bE ax.1,xI a1 aM bH ax.2⟩) (by
   intro q hm;obtain⟨r,hr,rfl⟩:=b6.1 hm;exact(hw r hr).2)
  rw[List.map_map]at hd;have hs:(C.map (wt (bL x p.1) (bL y p.2) (eA x y p (bG es))∘fun q=>((nd x p.1).kids.idxOf q.1,(nd y p.2).kids.idxOf q.2)))=C.map fun q=>bG es q-(nd x q.1).size-(nd y q.2).size:=by apply jF;intro q hm;exact(hw q hm).1
  rw[hs]at hd;have:=bJ p hp;have:=bN p hp;omega
 cases M with
 |nil=>have:=key (0,0) aV [] (by simp[c6]) (by simp);have:=mM (nd x 0).text (nd y 0).text;simp only[KS,List.sum_nil]at*;omega
 |cons r M=>
  have bI:=Y [] r M rfl;have hr:r=(0,0):=bI.2.2.2.2.2.1.2 rfl;subst hr
  have bA:∀a:List (Int×Int),(∀q∈a,q∈l)->-1<=(fe a).1/\-1<=(fe a).2:=by
   intro a ha;rcases List.eq_nil_or_concat a with rfl|⟨a',z,rfl⟩;·simp[fe]
   ·have hz:=J.inr z (ha z (by simp));unfold fe bZ at*;rw[List.concat_eq_append,vR];omega
  have up:∀a q b,(0,0)::M=a++q::b->(∀r∈a,r∈l)->a≠[]->fC x y q∈a/\q.1∈(nd x (fC x y q).1).kids/\q.2∈(nd y (fC x y q).2).kids/\(nd x q.1).kind=(nd y q.2).kind:=by
   intro a q b e ha aJ;have ok:=Y a q b e;have bv:q≠(0,0):=fun e=>aJ (ok.2.2.2.2.2.1.1 e)
   have hp:fC x y q∈a:=by
    rcases ok.2.2.2.2.2.2 with h|h;·exact absurd h bv
    ·exact h
   have aT:=J.inr _ (ha _ hp);have aQ:=bA a ha;have bS:=ok.1;have bT:=ok.2.1;exact⟨hp,rh hx (by omega) ok.2.2.1 aT.1,rh hy (by omega) ok.2.2.2.1 aT.2.2.1,ok.2.2.2.2.1⟩
  have bd:∀(b a:List (Int×Int)),(0,0)::M=a++b->a≠[]->(∀q∈a,q∈l)->∀q∈(0,0)::M,q∈l:=by
   intro b;induction b with
   |nil=>intro a e _ ha q G;rw[e,jG]at G;exact ha q G
   |cons z b bz=>
    intro a e aJ ha;obtain⟨aO,O,ak,aP⟩:=up a z b e ha aJ;refine bz (a++[z]) (by rw[e];simp) (by simp) ?_;intro q G;rcases xm.1 G with G|G;·exact ha q G
    ·simp only[eR]at G;subst G;refine bg _ (ha _ aO) q ?_;unfold kp;refine hM.2 ⟨q.1,O,?_⟩;unfold fA;exact b6.2 ⟨q.2,lz.2 ⟨ak,by simpa using aP⟩,rfl⟩
  have aG:=bd M [(0,0)] rfl (by simp) (by intro q G;simp only[eR]at G;subst G;exact aV)
  have aX:∀q∈M,fC x y q∈(0,0)::M/\q.1∈(nd x (fC x y q).1).kids/\q.2∈(nd y (fC x y q).2).kids/\(nd x q.1).kind=(nd y q.2).kind:=by
   intro q G;obtain⟨a,b,e⟩:=List.append_of_mem G
   obtain⟨aO,O⟩:=up ((0,0)::a) q b (by rw[e];rfl) (fun r hr=>aG r (by
    rw[e];rcases b8.1 hr with h|h;·simp[h]
    ·simp[h])) (by simp)
   refine⟨?_,O⟩;rw[e];rcases b8.1 aO with h|h;·rw[h];simp
   ·simp[h]
  have bp:((0,0)::M).Nodup:=by refine pk ?_ h2;intro a b ax e;subst e;omega
  have hA:c6 M:=(fJ.1 h2).2
  have main:=Ee ((0,0)::M) (fun p=>bG es p-(nd x p.1).size-(nd y p.2).size) (fun p=>(cZ (nd x p.1).text (nd y p.2).text-2)+((M.filter fun q=>decide (fC x y q=p)).map fun q=>bG es q-(nd x q.1).size-(nd y q.2).size).sum) (by
   intro p hp;refine key p (aG p hp) _ (vM _ hA) ?_;intro q G;obtain⟨aY,aN⟩:=lz.1 G;have aN:fC x y q=p:=by simpa using aN
   obtain⟨_,O,ak,aP⟩:=aX q aY;rw[aN]at O ak;exact⟨aG q (by simp[aY]),O,ak,aP⟩)
  rw[xG,xH bp (fC x y) _ M (fun q G=>(aX q G).1)]at main;rw[cR,GS]at main;simp only at main;omega
def iv(es:List dY)(q:Int×Int):dY:=(es.find? (fun e=>decide ((e.a,e.b)=q))).getD default
theorem Eh(es:List dY)(q:Int×Int):bG es q=(iv es q).cost:=by unfold bG iv;cases es.find? (fun e=>decide ((e.a,e.b)=q))<;>rfl
theorem xJ(e:dY)(es:List dY)(q:Int×Int):iv (e::es) q=if q=(e.a,e.b)then e else iv es q:=by
 unfold iv;by_cases h:(e.a,e.b)=q;·rw[List.find?_cons_of_pos (by simpa using h),if_pos h.symm];rfl
 ·rw[List.find?_cons_of_neg (by simpa using h),if_neg (fun e=>h e.symm)]
theorem tV(x y:List aB):∀(l:List (Int×Int)),(aQ x y l).map (fun e=>(e.a,e.b))=l
 |[]=>rfl
 |p::ps=>by rw[aQ,cR,tV x y ps];rfl
theorem pV(x y:List aB)(l:List (Int×Int)):(aQ x y l).length=l.length:=by have:=congrArg List.length (tV x y l);simpa using this
theorem tW(x y:List aB):∀(l:List (Int×Int)) (k:Nat) (G:k<l.length),(aQ x y l)[k]'(by rw[pV];exact G)=hT x y l[k] (bG (aQ x y (l.drop (k+1))))
 |p::ps,0,_=>by simp[aQ]
 |p::ps,k+1,G=>by simp only[aQ,dV,List.drop_succ_cons];exact tW x y ps k (by simpa using G)
theorem xK(x y:List aB)(l:List (Int×Int))(k:Nat)(G:k<l.length):aQ x y (l.drop k)=hT x y l[k] (bG (aQ x y (l.drop (k+1))))::aQ x y (l.drop (k+1)):=by rw[jh G,aQ]
theorem xL(x y:List aB):∀(l:List (Int×Int)) (e:dY),e∈aQ x y l->∃p ps,p∈l/\(∀q∈ps,q∈l)/\e=hT x y p (bG (aQ x y ps))
 |[],e,h=>by simp[aQ]at h
 |p::ps,e,h=>by
  rw[aQ]at h;rcases b8.1 h with rfl|h;·exact⟨p,ps,by simp,fun q G=>by simp[G],rfl⟩
  ·obtain⟨O,Y,h1,h2,J⟩:=xL x y ps e h;exact⟨O,Y,by simp[h1],fun q G=>by simp[h2 q G],J⟩
theorem ri{x y:List aB}:∀{l:List (Int×Int)},l.Nodup->∀(k:Nat) (G:k<l.length),(aQ x y l)[k]'(by rw[pV];exact G)=iv (aQ x y l) l[k]
 |p::ps,h,0,_=>by simp only[aQ,List.getElem_cons_zero];rw[xJ];exact(if_pos rfl).symm
 |p::ps,h,k+1,G=>by
  rw[ny]at h;simp only[aQ,dV];rw[xJ,if_neg (fun e=>h.1 (by have:ps[k]'(by simpa using G)=p:=e;rw[<-this];simp))]
  exact ri h.2 k (by simpa using G)
theorem tX(x y:List aB)(l:List (Int×Int))(p:Int×Int):iv (aQ x y l) p=default\/∃ps,(∀q∈ps,q∈l)/\iv (aQ x y l) p=hT x y p (bG (aQ x y ps)):=by
 cases hf:(aQ x y l).find? (fun e=>decide ((e.a,e.b)=p))with
 |none=>left;unfold iv;rw[hf];rfl
 |some e=>
  right;obtain⟨O,ps,_,h2,G⟩:=xL x y l e (BO hf);have J:(e.a,e.b)=p:=by simpa using Ki hf
  have:O=p:=by rw[<-J,G];rfl
  subst this;exact⟨ps,h2,by unfold iv;rw[hf,G];rfl⟩
theorem rj(drop add:List Int)(cost:List (List Int)):∀(f i j:Nat),(bO drop add cost f i j).Pairwise (fun p q=>q.1<p.1/\q.2<p.2)
 |0,_,_=>by simp[bO]
 |f+1,i,j=>by
  rw[bO];split
  ·split;·rw[fJ];refine⟨fun q G=> ?_,rj drop add cost f (i-1) (j-1)⟩;have:=nO drop add cost f (i-1) (j-1) q G;simp only;omega
   ·split;·exact rj drop add cost f (i-1) j
    ·exact rj drop add cost f i (j-1)
  ·simp
theorem rk(drop add:List Int)(cost:List (List Int)):∀(f i j:Nat) (p:Int×Int),p∈bO drop add cost f i j->0<=cg cost p.1.toNat p.2.toNat
 |0,_,_,p,h=>by simp[bO]at h
 |f+1,i,j,p,h=>by
  rw[bO]at h;split at h
  ·split at h
   ·rename_i h1;rcases b8.1 h with rfl|h;·simp only[Int.toNat_natCast];exact h1.2.2.1
    ·exact rk drop add cost f (i-1) (j-1) p h
   ·split at h;·exact rk drop add cost f (i-1) j p h
    ·exact rk drop add cost f i (j-1) p h
  ·simp at h
theorem Ei(drop add:List Int)(cost:List (List Int)):c6 (e0 drop add cost).aR:=by unfold c6 e0;rw[List.pairwise_reverse];exact rj _ _ _ _ _ _
theorem Ej{drop add:List Int}{cost:List (List Int)}{k:Int×Int}(h:k∈(e0 drop add cost).aR):0<=k.1/\k.1<drop.length/\0<=k.2/\k.2<add.length/\0<=cg cost k.1.toNat k.2.toNat:=by simp only[e0,List.mem_reverse]at h;have h1:=nO _ _ _ _ _ _ k h;have h2:=rk _ _ _ _ _ _ k h;exact⟨h1.1,h1.2.1,h1.2.2.1,h1.2.2.2,h2⟩
def gC(x y:List aB)(p k:Int×Int):Int×Int:=((nd x p.1).kids.getD k.1.toNat 0,(nd y p.2).kids.getD k.2.toNat 0)
def ff(x y:List aB)(es:List dY)(p:Int×Int):List (Int×Int):=(iv es p).kids.aR.map (gC x y p)
theorem xM{x y:List aB}{p:Int×Int}{G:Int×Int->Int}{i j:Nat}(J:i<(nd x p.1).kids.length)(hj:j<(nd y p.2).kids.length):cg (eA x y p G) i j=if(nd x (nd x p.1).kids[i]).kind=(nd y (nd y p.2).kids[j]).kind then G ((nd x p.1).kids[i],(nd y p.2).kids[j])else-1:=by unfold cg eA;rw[vL ((nd x p.1).kids.map _) _ _ (by simpa using J),eU,vL _ _ _ (by simpa using hj),eU]
theorem pW{x y:List aB}{p:Int×Int}{ab:Int×Int->Int}{k:Int×Int}(h:k∈(ju x y p ab).aR):0<=k.1/\k.1<(nd x p.1).kids.length/\0<=k.2/\k.2<(nd y p.2).kids.length/\(gC x y p k).1∈(nd x p.1).kids/\(gC x y p k).2∈(nd y p.2).kids/\(nd x (gC x y p k).1).kind=(nd y (gC x y p k).2).kind:=by
 obtain⟨h1,h2,aj,O,Y⟩:=Ej h;simp only[bL,List.length_map]at h2 O;have G:k.1.toNat<(nd x p.1).kids.length:=by omega
 have J:k.2.toNat<(nd y p.2).kids.length:=by omega
 rw[xM G J]at Y;unfold gC;rw[vL _ _ _ G,vL _ _ _ J];refine⟨h1,h2,aj,O,aK G,aK J,?_⟩;split at Y;·assumption
 ·omega
theorem xN{l:List Int}(h:l.Pairwise (·<·)){i j:Int}(G:0<=i)(J:i<j)(hj:j<l.length):l.getD i.toNat 0<l.getD j.toNat 0:=by rw[vL l _ _ (by omega),vL l _ _ (by omega)];exact K3.1 h _ _ (by omega) (by omega) (by omega)
theorem xO{x y:List aB}(hx:WF x)(hy:WF y)(l:List (Int×Int)){p:Int×Int}(hp:bZ x y p):c6 (ff x y (aQ x y l) p):=by
 unfold ff;rcases tX x y l p with h|⟨ps,_,h⟩;·rw[h];simp[c6,default]
 ·rw[h];unfold c6;rw[mo];refine pj ?_ (Ei _ _ _:c6 (ju x y p _).aR);intro a b ha ab G;obtain⟨J,aj,O,ak,_⟩:=pW ha;obtain⟨b1,b2,b3,Y,_⟩:=pW ab;exact⟨xN (hx.gU p.1.toNat _ (gV hp.1 hp.2.1)) J G.1 b2,xN (hy.gU p.2.toNat _ (gV hp.2.2.1 hp.2.2.2)) O G.2 Y⟩
theorem rm{x y:List aB}(l:List (Int×Int)){p q:Int×Int}(G:q∈ff x y (aQ x y l) p):q∈kp x y p:=by
 unfold ff at G;rcases tX x y l p with h|⟨ps,_,h⟩;·rw[h]at G;simp[default]at G
 ·rw[h]at G;obtain⟨k,Y,rfl⟩:=b6.1 G;obtain⟨_,_,_,_,J,O,h7⟩:=pW Y;unfold kp;refine hM.2 ⟨_,J,?_⟩;unfold fA;exact b6.2 ⟨_,lz.2 ⟨O,by simpa using h7⟩,rfl⟩
theorem rp{x y:List aB}(hx:WF x)(hy:WF y)(l:List (Int×Int)):KF x y (ff x y (aQ x y l)):=by refine⟨fun p hp q G=>(q7 hx hy).inr p hp q (rm l G),fun p hp=> ?_⟩;refine pk ?_ (xO hx hy l hp);intro a b J e;subst e;omega
theorem Ek:(default:dY).kids.aR=[]:=rfl
def pX(x y:List aB)(l:List (Int×Int)):List (Int×Int):=(ez (ff x y (aQ x y l)) (x.length*y.length) (x.length*y.length+1) [(0,0)] 0).getD []
def iO(x y:List aB)(l:List (Int×Int)):kd:=
 {aR:=cq (pX x y l),cost:=((aQ x y l).getD 0 default).cost,gT:=true,a7:=((aQ x y l).getD 0 default).cost,proof:=aQ x y l}
section
variable {P:Program} {md:sy} {ops:Array Oper} {Q:Exit->Act->World->Prop} {S:World->Prop} {n:Nat}
def jq(P:Program)(md:sy)(ops:Array Oper)(Q:Exit->Act->World->Prop)(S:World->Prop)(n:Nat):Nat->Array Bool->Act->World->Prop
 |0,l,a,w=>jE md ops l=[]/\Q .normal a w
 |f+1,l,a,w=>(jE md ops l=[]->Q .normal a w)/\
  ∀i∈jE md ops l,wpOp P ops Q i (fun a' w'=>((l.setIfInBounds i true).getD n true=false->S w')/\jq P md ops Q S n f (l.setIfInBounds i true) a' w') a w
theorem wQ:∀(f:Nat) (l:Array Bool) (a:Act) (w:World),jq P md ops Q S n f l a w->wpAny P md ops Q f l a w
 |0,_,_,_,h=>h
 |f+1,_,_,_,h=>⟨h.1,fun i G=>wpOp_mono (fun a' w' h'=>wQ f _ a' w' h'.2) (h.2 i G)⟩
theorem CY{i:Nat}{J:Oper}{v:Value}(aB:ops[i]? =some J)(aO:∀(j:Nat) (o:Oper) cs b,ops[j]? =some o->o.op≠.select cs b)(aT:∀c a w,Q (.panic c) (a.put J.dst v) w->Q (.panic c) a w)(aS:BA md ops n i=true):
  ∀(f:Nat) (l:Array Bool) (a:Act) (w:World),
   (∀j oj,ops[j]? =some oj->j≠i->l.getD j true=false->(∀e∈oj.after,oq md e=true->e.on≠i)->J.apart ops oj=true)->
   i∈jE md ops l->YieldsIf P ops S J v a->l.getD n true=false->S w->
   jq P md ops Q S n f (l.setIfInBounds i true) (a.put J.dst v) w->jq P md ops Q S n (f+1) l a w:=by
 intro f;induction f with
 |zero=>
  intro l a w _ hr hy _ hS H;refine⟨fun h=>(by rw[h]at hr;cases hr),fun j hj=> ?_⟩;rcases vG j i with e|e;·have h2:=ready_mono hj e;rw[H.1]at h2;cases h2
  ·subst e;exact hy.wpOp aB hS ⟨fun _=>hS,H⟩
 |succ f a4=>
  intro l a w aJ hr hy hn hS H;have a5:∀(k:Nat),l.getD k true=true->k≠i:=fun k aj e=>by have G:=(mem_ready.1 hr).1;rw[e,G]at aj;cases aj
  refine⟨fun h=>(by rw[h]at hr;cases hr),fun j hj=> ?_⟩;rcases vG j i with e|e
  ·obtain⟨aL,oj,am,aX⟩:=mem_ready.1 hj
   have aM:∀x∈oj.after,oq md x=true->x.on≠i:=fun x hx O aY=>by
    have h1:=aX x hx O;have G:=(mem_ready.1 hr).1;rw[aY]at h1;rcases b7 i l.size with h'|h';·simp[h']at G h1;rw[G]at h1;cases h1
    ·simp[iF h']at h1
   have ab:j≠n:=fun ab=>by obtain⟨on,ak,x,hx,O,aG⟩:=Kc aS;rw[<-ab,am]at ak;cases ak;exact aM x hx O aG
   have a3:(l.setIfInBounds j true).getD n true=false:=by rw[vH true ab];exact hn
   have aP:((l.setIfInBounds i true).setIfInBounds j true).getD n true=false:=by
    rw[vH true ab];rcases vG i n with ao|ao;·rw[vH true ao];exact hn
    ·exfalso;obtain⟨on,ak,x,hx,O,aG⟩:=Kc aS;obtain⟨_,a8,aN,aV⟩:=mem_ready.1 hr;rw[ao,ak]at aN;cases aN;have h1:=aV x hx O;have G:=(mem_ready.1 hr).1;rw[aG]at h1;rcases b7 i l.size with h'|h';·simp[h']at G h1;rw[G]at h1;cases h1
     ·simp[iF h']at h1
   have h2:=wpOp_putIf am (aJ j oj am e aL aM) (fun cs b=>aO i J cs b aB) (fun cs b=>aO j oj cs b am) aT hy (H.2 j (ready_mono hj e))
   have aZ:∀k ok,ops[k]? =some ok->k≠i->(l.setIfInBounds j true).getD k true=false->(∀x∈ok.after,oq md x=true->x.on≠i)->J.apart ops ok=true:=fun k ok aj a1 aQ a2=>by
    refine aJ k ok aj a1 ?_ a2;rcases vG j k with ax|ax;·rw[vH true ax]at aQ;exact aQ
    ·subst ax;exact aL
   refine wpOp_mono (fun a' w' Y=>⟨fun _=>Y.2.1 aP,a4 (l.setIfInBounds j true) a' w' aZ (ready_mono hr (Ne.symm e)) Y.1 a3 (Y.2.1 aP) ?_⟩) h2;rw[Array.setIfInBounds_comm _ _ e];exact Y.2.2
  ·subst e;exact hy.wpOp aB hS ⟨fun _=>hS,H⟩
theorem CZ{i:Nat}{G:Oper}{v:Value}{f:Nat}{l:Array Bool}{a:Act}{w:World}(J:ops[i]? =some G)(hs:BB ops=true)(hf:BC md ops l i=true)(hr:(jE md ops l).contains i=true)(Y:BA md ops n i=true)(hn:l.getD n true=false)(O:∀c a w,Q (.panic c) (a.put G.dst v) w->Q (.panic c) a w)(hy:YieldsIf P ops S G v a)(hS:S w)(h:jq P md ops Q S n f (l.setIfInBounds i true) (a.put G.dst v) w):jq P md ops Q S n (f+1) l a w:=
 CY J (Region.noSelect_spec hs) O Y f l a w (Region.free_spec J hf) (by simpa using hr) hy hn hS h
def aZ(P:Program)(md:sy)(ops:Array Oper)(Q:Exit->Act->World->Prop)(S:World->Prop)(n f:Nat)(l:Array Bool)(a:Act)(w:World)(rs:List Nat):Prop:=
 ∀i∈rs,wpOp P ops Q i (fun a' w'=>((l.setIfInBounds i true).getD n true=false->S w')/\jq P md ops Q S n f (l.setIfInBounds i true) a' w') a w
theorem aZ.nil{f:Nat}{l:Array Bool}{a:Act}{w:World}:aZ P md ops Q S n f l a w []:=fun _ h=>by cases h
theorem aZ.cons{f:Nat}{l:Array Bool}{a:Act}{w:World}{i:Nat}{o:Oper}{rs:List Nat}(O:ops[i]? =some o)(h:∀G:Act->World->Prop,Shut (∀a w,((l.setIfInBounds i true).getD n true=false->S w)->jq P md ops Q S n f (l.setIfInBounds i true) a w->G a w)->if ox o (yielded ops a.tmps)=true then Oper.wp P o a w G Q else G (a.put o.dst undef) w)(hs:aZ P md ops Q S n f l a w rs):aZ P md ops Q S n f l a w (i::rs):=fun j hj=>by
 rcases b8.1 hj with rfl|hj;·exact wpOp_step O (fun G hK=>h G (fun a w hS J=>hK a w ⟨hS,J⟩))
 ·exact hs j hj
theorem cE{rs:List Nat}{f:Nat}{l:Array Bool}{a:Act}{w:World}(hr:jE md ops l=rs)(J:rs≠[])(h:aZ P md ops Q S n f l a w rs):jq P md ops Q S n (f+1) l a w:=⟨fun G=>absurd (hr▸G) J,hr▸h⟩
theorem lK{l:Array Bool}{a:Act}{w:World}(hr:jE md ops l=[])(h:Q .normal a w):∀f,jq P md ops Q S n f l a w
 |0=>⟨hr,h⟩
 |_+1=>⟨fun _=>h,by rw[hr];simp⟩
theorem nE{id:Nat}{a:Act}{w:World}(hm:P.follows .mixedOrders=true)(hS:S w.drew)(h:S w.drew->jq P .any ops Q S n ops.size (Array.replicate ops.size false) a w.drew):(Code.region id ops true).wp P Q a w:=
 wp_region_any hm (wQ _ _ _ _ (h hS))
def nx:Nat->List Bool->Nat
 |0,false::_=>0
 |0,true::l=>nx 0 l+1
 |k+1,_::l=>nx k l+1
 |_,[]=>0
def wR(md:sy)(ops:Array Oper)(n:Nat)(l:Array Bool)(i:Nat):Bool:=
 BB ops&&BC md ops l i&&(jE md ops l).contains i&&BA md ops n i&& !(l.getD n true)
theorem iL(k:Nat){G:Oper}{v:Value}{f:Nat}{l:List Bool}{a:Act}{w:World}(aj:ops[nx k l]? =some G)(hs:wR md ops n l.toArray (nx k l)=true)(ab:∀c a w,Q (.panic c) (a.put G.dst v) w->Q (.panic c) a w)(hw:ox G (yielded ops a.tmps)=true)(hS:S w)(hv:∀w,S w->(execOp a.eval G).run P w= .ok (.value v) w)(h:jq P md ops Q S n f (l.set (nx k l) true).toArray (a.put G.dst v) w):jq P md ops Q S n (f+1) l.toArray a w:=by simp only[wR,cy,Bool.not_eq_true']at hs;obtain⟨⟨⟨⟨h1,h2⟩,J⟩,O⟩,Y⟩:=hs;exact CZ aj h1 h2 J O Y ab (.inl ⟨hw,hv⟩) hS (by rw[bh];exact h)
def qV(md:sy)(ops:Array Oper)(l:Array Bool)(i:Nat):Bool:=
 BB ops&&BC md ops l i&&(jE md ops l).contains i
theorem nF(k:Nat){G:Oper}{v:Value}{f:Nat}{l:List Bool}{a:Act}{w:World}(O:ops[nx k l]? =some G)(hs:qV md ops l.toArray (nx k l)=true)(J:∀c a w,Q (.panic c) (a.put G.dst v) w->Q (.panic c) a w)(hw:ox G (yielded ops a.tmps)=true)(hS:S w)(hv:∀w,S w->(execOp a.eval G).run P w= .ok (.value v) w)(h:wpAnyH P md ops Q S f (l.set (nx k l) true).toArray (a.put G.dst v) w):wpAnyH P md ops Q S (f+1) l.toArray a w:=by simp only[qV,cy]at hs;exact wpAnyH_take O hs.1.1 hs.1.2 hs.2 J (.inl ⟨hw,hv⟩) hS (by rw[bh];exact h)
theorem Lr(k:Nat){G:Oper}{f:Nat}{l:List Bool}{a:Act}{w:World}(O:ops[nx k l]? =some G)(hs:qV md ops l.toArray (nx k l)=true)(J:∀c a w,Q (.panic c) (a.put G.dst undef) w->Q (.panic c) a w)(hw:ox G (yielded ops a.tmps)=false)(hS:S w)(h:wpAnyH P md ops Q S f (l.set (nx k l) true).toArray (a.put G.dst undef) w):wpAnyH P md ops Q S (f+1) l.toArray a w:=by simp only[qV,cy]at hs;exact wpAnyH_take O hs.1.1 hs.1.2 hs.2 J (.inr ⟨hw,rfl⟩) hS (by rw[bh];exact h)
end
end Go.Proofs.YtdplggpbgommnaaGreatDoor
