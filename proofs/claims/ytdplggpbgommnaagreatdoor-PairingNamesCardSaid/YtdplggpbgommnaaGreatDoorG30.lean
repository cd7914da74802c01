/- A program in which one definition gets a name that occurs nowhere is paired with itself: in plain words. -/
import Derived.Test.YtdplggpbgommnaaGreatDoorG29
open Bool renaming and_eq_true->cy
open Go.ByteArray renaming toList_eq->eT
open Go.IntKind renaming i64->ae
open Go.Lib renaming hid->aa
open Go.Obj renaming cells->au
open Go.Proofs.Tryz renaming prog->ai
open Go.RowKit.Below renaming heap_setCell->cH
open Go.Value renaming int->af,slice->ag,string->ah,tuple->bD
open Int renaming toNat_natCast->dy
open List renaming ext_getElem->v8,foldl_cons->dK,foldl_nil->fk,getD_cons_succ->K8,getD_cons_zero->Le,getD_eq_getElem?_getD->bb,getElem?_cons_succ->bQ,getElem?_cons_zero->bc,getElem?_eq_getElem->aE,getElem?_set_ne->B3,getElem?_set_self->LP,getElem?_toArray->bw,getElem_map->eU,getElem_mem->aK,getElem_set->mg,length_append->cI,length_cons->bF,length_map->dL,length_set->KW,length_singleton->Bt,mem_cons_of_mem->cW,mem_cons_self->eu,mem_iff_getElem->ij,mem_map->b6,mem_or_eq_of_mem_set->qu,mem_range->ee,range_succ->dx,range->aw,set_cons_succ->bf,set_cons_zero->nu
open List.Pairwise renaming imp->pk
open Nat renaming add_sub_cancel_left->Bq,eq_zero_or_pos->et,le_refl->kI
open Option.some renaming injEq->aC,inj->aU
open Prod.mk renaming injEq->jg
set_option maxRecDepth 100000
set_option maxHeartbeats 4000000
namespace Go.Proofs.YtdplggpbgommnaaGreatDoor
open Go.RowKit
theorem filter_one(z n:Nat)(hz:z<n):(aw n).filter (fun i=>decide (i=z))=[z]:=by
 induction n with
 |zero=>omega
 |succ n J=>
  rw[dx,List.filter_append];by_cases e:z=n
  ·subst e;have:(aw z).filter (fun i=>decide (i=z))=[]:=by rw[List.filter_eq_nil_iff];intro i G;have:=ee.1 G;simp only[decide_eq_true_eq];omega
   rw[this];simp
  ·rw[J (by omega)];simp[show n≠z by omega]
theorem HZ(n z:Nat)(hz:z<n):dp (cd n fun i=>decide (i≠z))=[z]:=by
 rw[<-filter_one z n hz];unfold dp;rw[qh];apply List.filter_congr;intro i G;rw[zr n _ i (ee.1 G)];by_cases e:i=z;·subst e;simp
 ·simp[e]
theorem H0(n z:Nat)(hz:z<n)(cost:Nat->Nat->Int)(drop add:Nat->Int)(a:Nat)(hc:cost z z=1)(hd:drop z=a)(ha:add z=a)(hs:mA [[1,(a:Int)],[(a:Int),0]]=[0,1]):eX (cd n fun i=>decide (i≠z)) (cd n fun i=>decide (i≠z)) cost drop add=(cd n fun _=>true,cd n fun _=>true):=by
 unfold eX;simp only[HZ n z hz];have J:gp [z] [z] cost drop add=[[1,(a:Int)],[(a:Int),0]]:=by simp[gp,lG,dx,hc,hd,ha]
 rw[J,hs]
 have G:(cd n fun i=>decide (i≠z)).set z (z:Int)=cd n fun _=>true:=by
  apply v8;·simp[cd]
  ·intro i h1 h2;simp only[cd,mg,eU,List.getElem_range];by_cases e:z=i;·simp[e]
   ·have e':¬i=z:=fun h=>e h.symm;simp[e,e']
 have O:(fun i=>decide (i≠z))=fun i=> !decide (i=z):=by funext i;simp
 rw[O]at G;simp[nC,oJ,dx,ge,gm,G]
section
variable {ck:Int->ByteArray->List Nat->ByteArray}
theorem LU{ts G:List Tree}(aS:rU ts)(budget:Int)(z:Nat)(hz:z<(aj 0 ts).length)(u:Tree)(a9:G.map Tree.text=ts.map Tree.text)(aP:G.length=ts.length)(aQ:∀i,i<ts.length->(G.getD i default).size=(ts.getD i default).size)(hd:aj 0 G=(aj 0 ts).set z ⟨((aj 0 ts).getD z default).module,((aj 0 ts).getD z default).number,u⟩)(a1:u.kind=((aj 0 ts).getD z default).t.kind)(us:u.size=((aj 0 ts).getD z default).t.size)(a2:∀d∈aj 0 ts,d.t.text≠u.text)(hm:∀i,i<(aj 0 ts).length->i≠z->(bE (aO ((aj 0 ts).getD i default).t) (aO ((aj 0 ts).getD i default).t) budget).aR=dT ((aj 0 ts).getD i default).t.size/\(bE (aO ((aj 0 ts).getD i default).t) (aO ((aj 0 ts).getD i default).t) budget).cost=0)(aM:(bE (aO ((aj 0 ts).getD z default).t) (aO u) budget).aR=dT ((aj 0 ts).getD z default).t.size/\(bE (aO ((aj 0 ts).getD z default).t) (aO u) budget).cost=1)(hs:mA [[1,(u.size:Int)],[(u.size:Int),0]]=[0,1])(hr:∀kn,∀x∈(dk ck (aj 0 G) kn).1,x.module<G.length/\0<x.size/\1<=x.number/\x.number+x.size<=(G.getD x.module default).size):e5 ts (fun _ _=>True) (eD ck budget ts G)/\(eD ck budget ts G).cost=1:=by
 have aN:(aj 0 G).length=(aj 0 ts).length:=by rw[hd,KW]
 have ab:∀i,i<(aj 0 ts).length->(aj 0 G).getD i default=⟨((aj 0 ts).getD i default).module,((aj 0 ts).getD i default).number,if i=z then u else((aj 0 ts).getD i default).t⟩:=fun i J=>by
  rw[hd];by_cases e:i=z;·subst e;rw[if_pos rfl,bb,LP J];rfl
  ·rw[if_neg e,bb,B3 fun h=>e h.symm,<-bb]
 have ax:∀i,i<(aj 0 ts).length->(aj 0 ts).getD i default∈aj 0 ts:=fun i J=>by rw[getD_at J];exact aK J
 have aB:∀i,i<(aj 0 ts).length->((aj 0 ts).getD i default).module<ts.length/\((aj 0 ts).getD i default).number+((aj 0 ts).getD i default).t.size<=(ts.getD ((aj 0 ts).getD i default).module default).size:=fun i J=>by have:=mT ts 0 _ (ax i J);rw[Nat.sub_zero]at this;exact⟨by omega,this.2.2.2.1⟩
 have aG:iC ts G (cN ts G)=_:=GJ aS.1 a9;have O:=GC (ts:=ts) (s:=iC ts G (cN ts G)) (by rw[aG];have:=GI ts ts (fun _ _=>False) (fun _ _ h=>h) rfl G aP aQ;exact⟨this.rl,this.nl,this.gZ,this.gY,this.rs,this.nt⟩) (by rw[aG]) (fun i J=>by have:=(ts.getD i default).size_eq;omega)
 have am:l5 ts G (cN ts G)=(aw (iC ts G (cN ts G)).nm.length).foldl ea (iC ts G (cN ts G)):=rfl;rw[<-am]at O;rw[aG]at O;obtain⟨O,aT,aV,aX,aY,ba⟩:=O;unfold eD;generalize l5 ts G (cN ts G)=Y at*;simp only[cN]at aT aV aX aY ba
 have a3:l4 budget ts G Y={Y with oa:=cd (aj 0 ts).length fun _=>true,na:=cd (aj 0 ts).length fun _=>true}:=by
  unfold l4;rw[aT,aV,aN];simp only;rw[zt (aj 0 ts).length (la (aj 0 ts)) (km (aj 0 G) Y.nm) (fun i=>(((aj 0 ts).getD i default).module,((aj 0 ts).getD i default).t.kind,((aj 0 ts).getD i default).t.text)) (fun i=>(((aj 0 ts).getD i default).module,((aj 0 ts).getD i default).t.kind,(if i=z then u else((aj 0 ts).getD i default).t).text)) (fun i=>decide (i≠z)) (fun i _=>rfl) (fun i J=> ?_) (fun i j J hj e=> ?_) (fun i J h=> ?_) (fun i J h j hj e=> ?_)]
  ·rw[Gx (aj 0 ts).length _ _ _ _ (qh _ _) (qh _ _) (fun i J h j hj h2 a b aJ ao e=> ?_)]
   ·rw[H0 _ z hz _ _ _ u.size ?_ ?_ ?_ hs];·rw[ab z hz];simp only[if_true];unfold hI;rw[if_pos a1.symm,aM.2,if_neg];have:bS (2*1)=2:=zp (by omega) (by omega);rw[this,<-us];have:=u.size_eq;omega
    ·unfold ix;rw[us]
    ·unfold ix;rw[ab z hz];simp
   ·rw[zr _ _ i J]at h;rw[zr _ _ j hj]at h2
    have aL:i=z:=by
     by_cases e:i=z;·exact e
     ·simp[e]at h;omega
    have a8:j=z:=by
     by_cases e:j=z;·exact e
     ·simp[e]at h2;omega
    subst aL;subst a8;unfold iw at aJ ao;rw[ab _ J]at ao;simp only[if_true,aC]at aJ ao;rw[<-aJ,<-ao]at e;simp only[jg]at e;exact a2 _ (ax _ J) e.2.2
  ·unfold km;have:ge Y.nm ((aj 0 ts).getD i default).module=((aj 0 ts).getD i default).module:=by unfold ge;rw[aX];simpa using o6 ts.length _ (aB i J).1
   rw[ab i J];simp only[this];rw[if_pos (by omega)];by_cases e:i=z;·subst e;simp[a1]
   ·simp[e]
  ·simp only[jg,Int.ofNat_inj]at e;exact GH aS.2 i j J hj e.1 e.2.2
  ·have:i≠z:=by simpa using h
   simp[this]
  ·have aL:i=z:=by simpa using h
   subst aL;simp only[if_true,jg]at e;exact a2 _ (ax _ hj) e.2.2
 rw[a3]
 have ak:=GD (ts:=ts) (budget:=budget) (od:=aj 0 ts) (nd:=aj 0 G) (s:={Y with oa:=cd (aj 0 ts).length fun _=>true,na:=cd (aj 0 ts).length fun _=>true})
  ⟨O.rl,O.nl,O.gZ,O.gY,O.rs,O.nt⟩ aN rfl rfl (fun i J=>by
   rw[ab i J];refine⟨rfl,rfl,(aB i J).1,(aB i J).2,?_⟩;by_cases e:i=z;·subst e;simp only[if_true];exact aM.1
   ·simp only[if_neg e];exact(hm i J e).1) (fun m j h1 h2 a5=>by
   obtain⟨d,hd,bp,bg⟩:=zB ts 0 m j h1 h2 a5;obtain⟨i,J,rfl⟩:=ij.1 hd;refine⟨i,J,?_⟩;rw[getD_at J]
   exact⟨by omega,bg⟩) (fun x i=>bS (x+if i=z then 1 else 0)) (fun x i=>bS (x+(bE (aO ((aj 0 ts).getD i default).t) (aO ((aj 0 G).getD i default).t) budget).a7)) (fun x i J=>by
    rw[ab i J];by_cases e:i=z;·subst e;simp only[if_true];rw[aM.2]
    ·simp only[if_neg e];rw[(hm i J e).2]) (fun x i J=>rfl)
 simp only at ak;obtain⟨ak,aZ,bd⟩:=ak;have a4:kw budget ts G {Y with oa:=cd (aj 0 ts).length fun _=>true,na:=cd (aj 0 ts).length fun _=>true}=(aw (aj 0 G).length).foldl (gF (aj 0 G)) ((aw (aj 0 ts).length).foldl (ek budget (aj 0 ts) (aj 0 G)) {Y with oa:=cd (aj 0 ts).length fun _=>true,na:=cd (aj 0 ts).length fun _=>true}):=rfl;rw[<-a4]at ak aZ bd
 have bm:∀n,(aw n).foldl (fun(x:Int) (i:Nat)=>bS (x+if i=z then 1 else 0)) 0=if z<n then 1 else 0:=fun n=>by
  have:=mX (fun(x:Int) (i:Nat)=>bS (x+if i=z then 1 else 0)) (fun k x=>x=if z<k then 1 else 0) n 0 (by simp) (fun k x _ h=>by
   rw[h];by_cases e:z<k;·rw[if_pos e,if_neg (by omega),if_pos (by omega)];exact zp (by omega) (by omega)
   ·rw[if_neg e];by_cases am:k=z;·rw[if_pos am,if_pos (by omega)];exact zp (by omega) (by omega)
    ·rw[if_neg am,if_neg (by omega)];exact zp (by omega) (by omega))
  exact this
 rw[GF ak fun kn x hx=>by have:=hr kn x hx;rw[aP]at this;rw[<-aQ x.module this.1];exact this]
 exact⟨ak,by rw[aZ,aY,bm,if_pos hz]⟩
end
theorem AK:∀(ts:List Tree) (n:Nat),dC (aN ts) n=dC ts n
 |[],_=>by rw[aN]
 |t::ts,n=>by rw[aN,dC,dC,l3,AK ts]
mutual
theorem AL:∀(t:Tree) (p:Int) (n:Nat),ej t.bare p n=ej t p n
 | .node k s l G,p,n=>by rw[Tree.bare,ej,ej,AK,uT,AM G]
theorem AM:∀(ts:List Tree) (p n:Nat),eJ (aN ts) p n=eJ ts p n
 |[],_,_=>by rw[aN]
 |t::ts,p,n=>by rw[aN,eJ,eJ,AL t,l3,AM ts]
end
theorem H2(t:Tree):aO t.bare=aO t:=AL t _ _
theorem H3{t:Tree}(h:t.size<=400)(budget:Int)(Y:160000<=budget):(bE (aO t) (aO t.bare) budget).aR=dT t.size/\(bE (aO t) (aO t.bare) budget).cost=0/\(bE (aO t) (aO t.bare) budget).a7=0:=by
 rw[H2];have J:=nJ t;have hm:=Nat.mul_le_mul h h;have O:(((aO t).length*(aO t).length:Nat):Int)<=budget:=by rw[J];omega
 obtain⟨h1,h2,G⟩:=Gm (kr t) (uM h) budget O;rw[J]at G;exact⟨G,h1,by rw[(uJ (kr t) (kr t) (uM h) (uM h) budget O).2];exact h1⟩
theorem H4{x y:List aB}(J:PO x)(Y:PO y)(nx:ct x=true)(aQ:ct y=true)(budget:Int)(aG:((x.length*y.length:Nat):Int)<=budget)(aT:y.length=x.length)(aJ:(nd x 0).kind=(nd y 0).kind)(aN:(nd x 0).text≠(nd y 0).text)(hs:∀i:Nat,0<i->nd y (i:Int)=nd x (i:Int)):(bE x y budget).aR=dT x.length/\(bE x y budget).cost=1:=by
 have aX:=J.wf.pos;obtain⟨n,hn⟩:∃n,x.length=n+1:=⟨x.length-1,by omega⟩
 have ax:c6 (dT x.length):=by unfold c6 dT;rw[List.pairwise_map];exact pk (fun{a b} h=>by simp only;omega) List.pairwise_lt_range
 have hw:∀(l:List Nat),(∀i∈l,0<i)->eO x y (l.map fun(i:Nat)=>((i:Int),(i:Int)))= -2*(l.length:Int):=by
  intro l;induction l with
  |nil=>intro _;simp[eO]
  |cons a l aO=>intro h;rw[List.map_cons,qc,aO (fun i G=>h i (cW _ G)),bF];simp only;rw[hs a (h a eu)];unfold cZ;rw[if_pos rfl];omega
 have hid:dT x.length=(0,0)::((aw n).map Nat.succ).map fun(i:Nat)=>((i:Int),(i:Int)):=by rw[hn];unfold dT;rw[List.range_succ_eq_map];rfl
 have am:dP x y (dT x.length)=some 1:=by
  rw[uE J Y ax,aC];·rw[hid,qc,hw _ (fun i G=>by obtain⟨j,_,rfl⟩:=b6.1 G;omega),dL,List.length_range];unfold cZ;rw[if_neg aN];omega
  ·intro q O;obtain⟨i,G,rfl⟩:=b6.1 O;have:=ee.1 G;refine⟨⟨by simp,by simp only;omega,by simp,by simp only;omega⟩,?_⟩;rcases et i with rfl|h;·exact aJ
   ·simp only;rw[hs i h]
  ·rw[hid];rfl
  ·intro q O aM;obtain⟨i,G,rfl⟩:=b6.1 O;have G:=ee.1 G
   have ab:0<i:=by
    rcases et i with rfl|h;·exact absurd rfl aM
    ·exact h
   obtain⟨j,a2,aZ,a1,aP,_⟩:=J.wf.par i _ (aE G) ab;have e:fC x y ((i:Int),(i:Int))=((j:Int),(j:Int)):=by unfold fC;simp only;rw[hs i ab,nL (aE G),aP]
   rw[e];exact b6.2 ⟨j,ee.2 (by omega),rfl⟩
 have h1:=zi J Y nx aQ budget aG am;have hp:=qf J Y budget;obtain⟨e,ha,G⟩:=qe hp;have aY:=qd x y (bE x y budget).aR;have aV:=uH ha G;have aL:(bE x y budget).aR.length=x.length:=by omega
 have ak:(bE x y budget).aR=dT x.length:=by
  apply v8;·rw[aL];simp[dT]
  ·intro i aj aS;have g1:=uK ha (fun p hp=>⟨(G p hp).1,(G p hp).2.2.1⟩) i aj;have g2:=uL (n:=x.length) ha (fun p hp=>⟨(G p hp).2.1,by have:=(G p hp).2.2.2;omega⟩) (x.length-i-1) i aj (by omega);have ao:(dT x.length)[i]=((i:Int),(i:Int)):=by simp[dT]
   rw[ao];exact Prod.ext (by simp only;omega) (by simp only;omega)
 rw[ak,am]at hp;exact⟨ak,(aU hp).symm⟩
theorem LV(k:Int)(s s':ByteArray)(l l':List ByteArray)(G:List Tree)(h:ax G+1<=400)(O:s≠s')(budget:Int)(Y:160000<=budget):(bE (aO (.node k s l G)) (aO (.node k s' l' G)) budget).aR=dT (ax G+1)/\(bE (aO (.node k s l G)) (aO (.node k s' l' G)) budget).cost=1:=by
 have J:(aO (.node k s l G)).length=ax G+1:=by rw[nJ,Tree.size]
 have l2:(aO (.node k s' l' G)).length=ax G+1:=by rw[nJ,Tree.size]
 have hm:=Nat.mul_le_mul h h
 have e:=H4 (kr (.node k s l G)) (kr (.node k s' l' G)) (uM (by rw[Tree.size];exact h)) (uM (by rw[Tree.size];exact h)) budget (by rw[J,l2];omega) (by rw[J,l2]) (by unfold aO;rw[ej,ej];rfl) (by unfold aO;rw[ej,ej];exact O)
  (fun i ab=>by
   obtain⟨j,rfl⟩:∃j,i=j+1:=⟨i-1,by omega⟩
   unfold nd aO;rw[ej,ej];simp only[dy,K8])
 rw[J]at e;exact e
theorem H5:∀a:Nat,a<200->mA [[1,((a+1:Nat):Int)],[((a+1:Nat):Int),0]]=[0,1]:=by decide+kernel
theorem H6(a:Nat)(G:0<a)(h:a<200):mA [[1,(a:Int)],[(a:Int),0]]=[0,1]:=by
 obtain⟨b,rfl⟩:∃b,a=b+1:=⟨a-1,by omega⟩
 exact H5 b (by omega)
section
variable {ck:Int->ByteArray->List Nat->ByteArray}
theorem LF:∀(G:List Tree) (d:Nat) (u:Tree),d<G.length->u.size=(G.getD d default).size->ax (G.set d u)=ax G
 |[],d,u,h,_=>by simp at h
 |k::G,0,u,_,e=>by rw[Le]at e;rw[nu,gR,gR,e]
 |k::G,d+1,u,h,e=>by rw[bf,gR,gR,LF G d u (by simpa using h) (by rw[K8]at e;exact e)]
theorem LG(m:Nat):∀(G:List Tree) (n d:Nat) (u:Tree),d<G.length->u.size=(G.getD d default).size->dt m n (G.set d u)=(dt m n G).set d ⟨m,((dt m n G).getD d default).number,u⟩/\d<(dt m n G).length/\((dt m n G).getD d default).t=G.getD d default/\((dt m n G).getD d default).module=m
 |[],n,d,u,h,_=>by simp at h
 |k::G,n,0,u,_,e=>by rw[Le]at e;rw[nu,dt,dt,e];simp
 |k::G,n,d+1,u,h,e=>by obtain⟨h1,h2,J,O⟩:=LG m G (n+k.size) d u (by simpa using h) (by rw[K8]at e;exact e);rw[bf,dt,dt,h1];simp only[K8,bf,bF];exact⟨trivial,by omega,J,O⟩
theorem LH:∀(ts:List Tree) (G m d:Nat) (u:Tree),m<ts.length->d<(ts.getD m default).kids.length->u.size=((ts.getD m default).kids.getD d default).size->
  ∃z,z<(aj G ts).length/\((aj G ts).getD z default).t=(ts.getD m default).kids.getD d default/\
   ∀(k:Int) (s:ByteArray) (l:List ByteArray),aj G (ts.set m (.node k s l ((ts.getD m default).kids.set d u)))=(aj G ts).set z ⟨((aj G ts).getD z default).module,((aj G ts).getD z default).number,u⟩
 |[],G,m,d,u,h,_,_=>by simp at h
 |t::ts,G,0,d,u,_,hd,e=>by
  simp only[Le]at hd e⊢;obtain⟨h1,h2,O,Y⟩:=LG G t.kids 1 d u hd e;have J:((aj G (t::ts)).getD d default)=(dt G 1 t.kids).getD d default:=by rw[aj,bb,List.getElem?_append_left h2,<-bb]
  refine⟨d,by rw[aj,cI];omega,by rw[J];exact O,fun k s l=> ?_⟩;rw[J,Y,nu,aj,aj,List.set_append_left _ _ h2];show dt G 1 (t.kids.set d u)++_=_;rw[h1]
 |t::ts,G,m+1,d,u,h,hd,e=>by
  simp only[K8]at hd e⊢;obtain⟨z,h1,h2,O⟩:=LH ts (G+1) m d u (by simpa using h) hd e;have J:((aj G (t::ts)).getD ((dt G 1 t.kids).length+z) default)=(aj (G+1) ts).getD z default:=by rw[aj,bb,List.getElem?_append_right (by omega),<-bb,Bq]
  refine⟨(dt G 1 t.kids).length+z,by rw[aj,cI];omega,by rw[J];exact h2,fun k s l=> ?_⟩;rw[J,bf,aj,aj,List.set_append_right _ _ (by omega),Bq,O]
theorem LW{ts:List Tree}(aB:rU ts)(hz:∀d∈aj 0 ts,d.t.size<200)(m d:Nat)(hm:m<ts.length)(hd:d<(ts.getD m default).kids.length)(s:ByteArray)(hs:∀e∈aj 0 ts,e.t.text≠s)(ak:List ByteArray)(l:List ByteArray):e5 ts (fun _ _=>True) (eD ck 1048576 ts (ts.set m (.node (ts.getD m default).kind (ts.getD m default).text ak ((ts.getD m default).kids.set d (.node ((ts.getD m default).kids.getD d default).kind s l ((ts.getD m default).kids.getD d default).kids)))))/\(eD ck 1048576 ts (ts.set m (.node (ts.getD m default).kind (ts.getD m default).text ak ((ts.getD m default).kids.set d (.node ((ts.getD m default).kids.getD d default).kind s l ((ts.getD m default).kids.getD d default).kids))))).cost=1:=by
 have J:(Tree.node ((ts.getD m default).kids.getD d default).kind s l ((ts.getD m default).kids.getD d default).kids).size=((ts.getD m default).kids.getD d default).size:=by rw[Tree.size,Tree.size_eq ((ts.getD m default).kids.getD d default)]
 obtain⟨z,h1,h2,am⟩:=LH ts 0 m d (.node ((ts.getD m default).kids.getD d default).kind s l ((ts.getD m default).kids.getD d default).kids) hm hd J;have Y:=hz _ (by rw[getD_at h1];exact aK h1:(aj 0 ts).getD z default∈aj 0 ts);have ab:=hs _ (by rw[getD_at h1];exact aK h1:(aj 0 ts).getD z default∈aj 0 ts);have ax:=LF (ts.getD m default).kids d _ hd J;rw[h2]at Y ab;have ao:=LV ((ts.getD m default).kids.getD d default).kind ((ts.getD m default).kids.getD d default).text s ((ts.getD m default).kids.getD d default).leads l ((ts.getD m default).kids.getD d default).kids (by rw[Tree.size_eq]at Y;omega) ab 1048576 (by omega);refine LU aB 1048576 z h1 (.node ((ts.getD m default).kids.getD d default).kind s l ((ts.getD m default).kids.getD d default).kids) ?_ (by rw[KW]) ?_ (am _ _ _) (by rw[h2];rfl) (by rw[h2];exact J) hs (fun i G _=> ?_) ?_ ?_ (fun kn=>rN _ kn)
 ·apply v8;·simp
  ·intro i g1 g2;simp only[dL,KW]at g1;rw[eU,eU,mg];split;·rename_i e;subst e;rw[getD_at hm];rfl
   ·rfl
 ·intro i G;by_cases e:i=m;·subst e;rw[bb,LP G];show(Tree.node _ _ _ _).size=_;rw[Tree.size,ax,<-Tree.size_eq]
  ·rw[bb,B3 fun h=>e h.symm,<-bb]
 ·have h:=hz _ (by rw[getD_at G];exact aK G:(aj 0 ts).getD i default∈aj 0 ts);have O:=H3 (t:=((aj 0 ts).getD i default).t) (by omega) 1048576 (by omega);rw[H2]at O;exact⟨O.1,O.2.1⟩
 ·rw[h2];generalize(ts.getD m default).kids.getD d default=x at*;cases x with
  |node k s0 aJ aG=>rw[Tree.size];exact ao
 ·rw[J];exact H6 _ (by rw[Tree.size_eq];omega) Y
end
theorem AO(h:Hp)(b:Nat)(c:Array Value):(h.add b c) b=some c:=by unfold Hp.add;rw[if_pos rfl]
theorem AP{h:Hp}{b2 J G:Nat}{name O Y l2:ByteArray}{T:Tree}{cells:List Value}(aj:h b2=some #[ah O,ah Y,ah l2])(ak:Sl h (ag (some ⟨J,0,none⟩) 1 G) 1 4 cells)(ab:aJ (bg h) [T] cells):aP h (.agg #[af ae 1,ah name,ag (some ⟨b2,0,none⟩) 3 3,ag (some ⟨J,0,none⟩) 1 G]) (.node 1 name [O,Y,l2] [T]):=by refine⟨_,rfl,?_⟩;rw[bg];exact⟨_,_,_,_,cells,rfl,by unfold aG;omega,⟨_,_,rfl,by simp,rfl,.inr ⟨b2,0,_,rfl,aj,fun i am=>by simp⟩⟩,ak,eH.iff.2 ab⟩
theorem u9(h:Hp)(w:World)(bC:ao h w)(s:ByteArray)(hs:s.size<=4096)(bB:∀i,i<s.size->bt s i≠35)(J G d n l r c ty e aj ax ak:cU)(tail:ByteArray)(hsc:oT s=([J,G,d,n,l,r,c,ty,e,aj,ax,ak],tail,0,0))(cj:J.text=⟨#[109,111,100,117,108,101]⟩)(cl:G.kind=2)(hd:d.text=⟨#[100,101,102]⟩)(hn:n.kind=1)(ci:l.text=⟨#[40]⟩)(hr:r.text=⟨#[41]⟩)(hc:c.text=⟨#[58]⟩)(cm:ty.text=⟨#[73,110,116]⟩)(he:e.text=⟨#[61]⟩)(k1:aj.kind=5)(cu:lm aj.text)(cq:mV ax.text=true)(k3:ak.kind=5)(cv:lm ak.text):
  Calls ai 21 #[ah s] w fun e' w'=>∃v,e'= .returned (bD #[v,af ae 0,af ae 0])/\∃h',St w.heap.size h w h' w'/\aP h' v (.node 1 G.text [J.lead,G.lead,tail] [.node 2 n.text [d.lead,n.lead,l.lead,r.lead,c.lead,e.lead] [.node 5 ⟨#[]⟩ [ty.lead] [],.node 21 ax.text [ax.lead] [.node 10 aj.text [aj.lead] [],.node 10 ak.text [ak.lead] []]]]):=by
 have aZ:=aa bC;have ba:=aa hsc;have bR:=aa bB;clear bC hsc bB;go_in;go_wp2_with fail;refine(D1 h _ (aZ.out.alloc _) s hs bR.out).mono ?_;rintro e' w1 ⟨v,rfl,h1,aO,aS,av,aV,ev,aX⟩;rw[ba.out]at aS ev aX;rw[ba.out];subst ev;have bq:Hid (Has w1 w.heap.size #[af ae 0,ah ⟨#[]⟩,ag none 0 0,ag none 0 0]):=(Has.new _ _ _).below aO.below;have a2:=aa (((St.refl aZ.out).alloc (au #[af ae 0,ah ⟨#[]⟩,ag none 0 0,ag none 0 0] 26)).call aO);have bX:Hid (h1 w.heap.size=none):=(aO.aI _ (by simp)).trans (bI aZ.out _ (kI _));have bS:=aa aS;obtain⟨aT,ot,rfl,cM,bE⟩:=aS.cells aO.I (by simp);have dn:w1.cell? ⟨aT,ot+1,none⟩=some (ah J.lead):=bE 1 _ rfl;clear aO aS bE;simp only[bF,List.length_nil]at aX;have ch:12<=aV:=aX;clear aX;go_wp2_with fail
 have bZ:Hid (bJ h1 (w1.alloc (au #[ag (some ⟨aT,ot,none⟩) 12 aV,af ae (J.lead.size:Int),af ae (s.size:Int),af ae 0,af ae 0] 93)) w1.heap.size [J,G,d,n,l,r,c,ty,e,aj,ax,ak]):=
  ⟨bI a2.out.I _ (kI _),_,_,_,_,_,Has.new _ _ _,ch,bS.out⟩
 have bv:=aa (bq.out.alloc (au #[ag (some ⟨aT,ot,none⟩) 12 aV,af ae (J.lead.size:Int),af ae (s.size:Int),af ae 0,af ae 0] 93));have bg:=aa (a2.out.alloc (au #[ag (some ⟨aT,ot,none⟩) 12 aV,af ae (J.lead.size:Int),af ae (s.size:Int),af ae 0,af ae 0] 93));have aJ:Hid (w.heap.size<w1.heap.size):=bq.out.lt;refine(Ia h1 _ bg.out.I w1.heap.size J G d n l r c ty e aj ax ak bZ.out cj cl hd hn ci hr hc cm he k1 cu cq k3 cv).mono ?_;rintro e' w3 ⟨v,rfl,am,b2,ab,Y,cells,rfl,aY,bL,bN,bH,bA,cX,bO,bz⟩;have aB:=aa (bv.out.gW aY (Nat.ne_of_lt aJ.out));have O:Hid (am w.heap.size=none):=(aY.aI _ bv.out.lt).trans bX.out;obtain⟨ap,cp,cV,cY,cw,a8,-⟩:=bL.row;have ct:=a8.cl 3;have dp:=a8.lt;obtain⟨dh,di,dk,dm⟩:=aB.out.jU;have cz:=aB.out.fz 0;have cA:=aB.out.fz 1;have cB:=aB.out.fz 2;have cC:=aB.out.fz 3;have dt:=aB.out.lt;have cN:w.heap.size≠w1.heap.size:=Nat.ne_of_lt aJ.out;have cQ:w1.heap.size≠w.heap.size:=Nat.ne_of_gt aJ.out;simp only[bw,bc,bQ]at ct;have aL:=aa aY;have bY:=aa bN;have a1:=aa bH;have bp:=aa bO;have a9:=aa bz;clear aY bL bN bH bO bz a8;go_wp2_with fail;have nx:w.heap.size≠b2:=by have:=aJ.out;simp at bA;omega
 have bd:=aa (bY.out.o4 nx (af ae 1) (ah G.text) (ag (some ⟨b2,0,none⟩) 3 3) (ag (some ⟨ab,0,none⟩) 1 Y));have ce:=aa (aB.out.mW (af ae 1) (ah G.text) (ag (some ⟨b2,0,none⟩) 3 3) (ag (some ⟨ab,0,none⟩) 1 Y));have cn:=aL.out.I
 have bV:Hid (ao am ((((w3.setCell ⟨w.heap.size,0,none⟩ (af ae 1)).setCell ⟨w.heap.size,1,none⟩ (ah G.text)).setCell ⟨w.heap.size,2,none⟩ (ag (some ⟨b2,0,none⟩) 3 3)).setCell ⟨w.heap.size,3,none⟩ (ag (some ⟨ab,0,none⟩) 1 Y))):=fun b c hc=>by
  have e:b≠w.heap.size:=fun e=>by rw[e,O.out]at hc;cases hc
  exact(oO (by rw[cH _ _ _ _ e,cH _ _ _ _ e,cH _ _ _ _ e,cH _ _ _ _ e])).trans (cn b c hc)
 have aM:=bg.out.grown aL.out.gr (fun k e=>by have e':w1.heap.size=k:=aU e;subst e';exact⟨Nat.le_of_lt aJ.out,bI a2.out.I _ (kI _)⟩)
 have bm:St w.heap.size h w am w3:=⟨aM.below,aL.out.I,Hp.le_trans aM.le aL.out.le,fun b a3=>(aL.out.aI b (by have:=aJ.out;simp;omega)).trans (aM.aI b a3),aM.base⟩
 have b9:=aa ((((bm.setCell (p:=⟨w.heap.size,0,none⟩) (kI _) O.out (af ae 1)).setCell (p:=⟨w.heap.size,1,none⟩) (kI _) O.out (ah G.text)).setCell (p:=⟨w.heap.size,2,none⟩) (kI _) O.out (ag (some ⟨b2,0,none⟩) 3 3)).setCell (p:=⟨w.heap.size,3,none⟩) (kI _) O.out (ag (some ⟨ab,0,none⟩) 1 Y));clear aM bm;have cg:w.heap.size<=b2:=by have:=aJ.out;simp at bA;omega
 have bG:am.le (am.add b2 #[ah J.lead,ah G.lead,ah ⟨#[]⟩]):=Hp.eG _ a1.out;have cd:=AP (name:=G.text) (AO am b2 #[ah J.lead,ah G.lead,ah ⟨#[]⟩]) (bp.out.mono bG) (a9.out.mono fun _ _ r=>r.mono bG);have bT:=aa (bV.out.add (bd.out.qj (by simp)));generalize(((w3.setCell ⟨w.heap.size,0,none⟩ (af ae 1)).setCell ⟨w.heap.size,1,none⟩ (ah G.text)).setCell ⟨w.heap.size,2,none⟩ (ag (some ⟨b2,0,none⟩) 3 3)).setCell ⟨w.heap.size,3,none⟩ (ag (some ⟨ab,0,none⟩) 1 Y)=c9 at*;refine(DI _ _ _ bT.out _ _ cd (kI _) (by simp[Tree.depth,hC])).mono ?_;rintro e' dg ⟨rfl,a4⟩;rw[show(Tree.node 1 G.text [J.lead,G.lead,⟨#[]⟩] [.node 2 n.text [d.lead,n.lead,l.lead,r.lead,c.lead,e.lead] [.node 5 ⟨#[]⟩ [ty.lead] [],.node 21 ax.text [ax.lead] [.node 10 aj.text [aj.lead] [],.node 10 ak.text [ak.lead] []]]]).depth=4 by simp[Tree.depth,hC]];have cc:=aa (b9.out.same a4);have aQ:=aa (bd.out.below a4);have aG:=aa (ce.out.below a4);obtain⟨v0,cZ,c6,c8⟩:=aG.out.jU;have cD:=aG.out.fz 0;have cE:=aG.out.fz 1;have cF:=aG.out.fz 2;have cG:=aG.out.fz 3;have co:=aQ.out.cl 2;have cK:=aQ.out.fz 2;have du:=aG.out.lt;have dr:=aQ.out.lt;have cS:=nx.symm;simp only[bw,bc,bQ]at co;go_wp2_with fail;have aN:=((((cc.out.setCell (p:=⟨b2,2,none⟩) cg a1.out (ah tail)).setCell (p:=⟨w.heap.size,0,none⟩) (kI _) O.out (af ae 1)).setCell (p:=⟨w.heap.size,1,none⟩) (kI _) O.out (ah G.text)).setCell (p:=⟨w.heap.size,2,none⟩) (kI _) O.out (ag (some ⟨b2,0,none⟩) 3 3)).setCell (p:=⟨w.heap.size,3,none⟩) (kI _) O.out (ag (some ⟨ab,0,none⟩) 1 Y);have b0:Has _ b2 #[ah J.lead,ah G.lead,ah tail]:=(aQ.out.hU 2 (by simp) (ah tail)).o4 nx (af ae 1) (ah G.text) (ag (some ⟨b2,0,none⟩) 3 3) (ag (some ⟨ab,0,none⟩) 1 Y);obtain⟨cf,c1,c2,c3⟩:=((aG.out.ne (fun e=>nx e.symm) 2 (ah tail)).mW (af ae 1) (ah G.text) (ag (some ⟨b2,0,none⟩) 3 3) (ag (some ⟨ab,0,none⟩) 1 Y)).jU;have a5:am.le (am.add b2 #[ah J.lead,ah G.lead,ah tail]):=Hp.eG _ a1.out;refine bodyPost_ret (v:=bD #[.agg #[af ae 1,ah G.text,ag (some ⟨b2,0,none⟩) 3 3,ag (some ⟨ab,0,none⟩) 1 Y],af ae 0,af ae 0]) (by simp[results,Tryz.results21,go_sem,cf,c1,c2,c3]) rfl ⟨_,rfl,_,⟨aN.below,aN.I.add (b0.qj (by simp)),Hp.le_trans aN.le a5,fun b a3=> ?_,aN.base⟩,AP (AO _ _ _) (bp.out.mono a5) (a9.out.mono fun _ _ r=>r.mono a5)⟩;unfold Hp.add;rw[if_neg (by omega)];exact aN.aI b a3
def ql:ByteArray:=⟨#[109,111,100,117,108,101,32,77,32,100,101,102,32,102,40,41,58,32,73,110,116,32,61,32,49,32,43,32,50]⟩
theorem Ib:oT ql=([⟨7,⟨#[]⟩,⟨#[109,111,100,117,108,101]⟩⟩,⟨2,⟨#[32]⟩,⟨#[77]⟩⟩,⟨7,⟨#[32]⟩,⟨#[100,101,102]⟩⟩,⟨1,⟨#[32]⟩,⟨#[102]⟩⟩,⟨8,⟨#[]⟩,⟨#[40]⟩⟩,⟨8,⟨#[]⟩,⟨#[41]⟩⟩,⟨8,⟨#[]⟩,⟨#[58]⟩⟩,⟨7,⟨#[32]⟩,⟨#[73,110,116]⟩⟩,⟨8,⟨#[32]⟩,⟨#[61]⟩⟩,⟨5,⟨#[32]⟩,⟨#[49]⟩⟩,⟨8,⟨#[32]⟩,⟨#[43]⟩⟩,⟨5,⟨#[32]⟩,⟨#[50]⟩⟩],⟨#[]⟩,0,0):=by kernel_rfl
theorem Ic:∀i,i<ql.size->bt ql i≠35:=by decide+kernel
def qm:ByteArray:=⟨#[109,111,100,117,108,101,32,78,32,100,101,102,32,103,40,41,58,32,73,110,116,32,61,32,49,32,43,32,50]⟩
theorem Ie:oT qm=([⟨7,⟨#[]⟩,⟨#[109,111,100,117,108,101]⟩⟩,⟨2,⟨#[32]⟩,⟨#[78]⟩⟩,⟨7,⟨#[32]⟩,⟨#[100,101,102]⟩⟩,⟨1,⟨#[32]⟩,⟨#[103]⟩⟩,⟨8,⟨#[]⟩,⟨#[40]⟩⟩,⟨8,⟨#[]⟩,⟨#[41]⟩⟩,⟨8,⟨#[]⟩,⟨#[58]⟩⟩,⟨7,⟨#[32]⟩,⟨#[73,110,116]⟩⟩,⟨8,⟨#[32]⟩,⟨#[61]⟩⟩,⟨5,⟨#[32]⟩,⟨#[49]⟩⟩,⟨8,⟨#[32]⟩,⟨#[43]⟩⟩,⟨5,⟨#[32]⟩,⟨#[50]⟩⟩],⟨#[]⟩,0,0):=by kernel_rfl
theorem Ig:∀i,i<qm.size->bt qm i≠35:=by decide+kernel
def Lc:ByteArray:=⟨#[109,111,100,117,108,101,32,77,32,100,101,102,32,103,40,41,58,32,73,110,116,32,61,32,49,32,43,32,50]⟩
theorem Ih:oT Lc=([⟨7,⟨#[]⟩,⟨#[109,111,100,117,108,101]⟩⟩,⟨2,⟨#[32]⟩,⟨#[77]⟩⟩,⟨7,⟨#[32]⟩,⟨#[100,101,102]⟩⟩,⟨1,⟨#[32]⟩,⟨#[103]⟩⟩,⟨8,⟨#[]⟩,⟨#[40]⟩⟩,⟨8,⟨#[]⟩,⟨#[41]⟩⟩,⟨8,⟨#[]⟩,⟨#[58]⟩⟩,⟨7,⟨#[32]⟩,⟨#[73,110,116]⟩⟩,⟨8,⟨#[32]⟩,⟨#[61]⟩⟩,⟨5,⟨#[32]⟩,⟨#[49]⟩⟩,⟨8,⟨#[32]⟩,⟨#[43]⟩⟩,⟨5,⟨#[32]⟩,⟨#[50]⟩⟩],⟨#[]⟩,0,0):=by kernel_rfl
theorem Ii:∀i,i<Lc.size->bt Lc i≠35:=by decide+kernel
theorem Lv:lm ⟨#[49]⟩:=⟨by rw[eT];decide,by rw[eT];decide,by rw[eT];decide,by rw[eT];decide,by rw[eT];decide,by rw[eT];decide,by rw[eT];decide⟩
theorem Lw:lm ⟨#[50]⟩:=⟨by rw[eT];decide,by rw[eT];decide,by rw[eT];decide,by rw[eT];decide,by rw[eT];decide,by rw[eT];decide,by rw[eT];decide⟩
def b0(m f:ByteArray):Tree:=
 .node 1 m [⟨#[]⟩,⟨#[32]⟩,⟨#[]⟩] [.node 2 f [⟨#[32]⟩,⟨#[32]⟩,⟨#[]⟩,⟨#[]⟩,⟨#[]⟩,⟨#[32]⟩] [.node 5 ⟨#[]⟩ [⟨#[32]⟩] [],.node 21 ⟨#[43]⟩ [⟨#[32]⟩] [.node 10 ⟨#[49]⟩ [⟨#[32]⟩] [],.node 10 ⟨#[50]⟩ [⟨#[32]⟩] []]]]
theorem Ij(h:Hp)(w:World)(G:ao h w):Calls ai 21 #[ah ql] w fun e' w'=>∃v,e'= .returned (bD #[v,af ae 0,af ae 0])/\∃h',St w.heap.size h w h' w'/\aP h' v (b0 ⟨#[77]⟩ ⟨#[102]⟩):=
 u9 h w G ql (by decide+kernel) Ic _ _ _ _ _ _ _ _ _ _ _ _ _ Ib rfl rfl rfl rfl rfl rfl rfl rfl rfl rfl Lv (by decide+kernel) rfl Lw
theorem Ik(h:Hp)(w:World)(G:ao h w):Calls ai 21 #[ah qm] w fun e' w'=>∃v,e'= .returned (bD #[v,af ae 0,af ae 0])/\∃h',St w.heap.size h w h' w'/\aP h' v (b0 ⟨#[78]⟩ ⟨#[103]⟩):=
 u9 h w G qm (by decide+kernel) Ig _ _ _ _ _ _ _ _ _ _ _ _ _ Ie rfl rfl rfl rfl rfl rfl rfl rfl rfl rfl Lv (by decide+kernel) rfl Lw
theorem Il(h:Hp)(w:World)(G:ao h w):Calls ai 21 #[ah Lc] w fun e' w'=>∃v,e'= .returned (bD #[v,af ae 0,af ae 0])/\∃h',St w.heap.size h w h' w'/\aP h' v (b0 ⟨#[77]⟩ ⟨#[103]⟩):=
 u9 h w G Lc (by decide+kernel) Ii _ _ _ _ _ _ _ _ _ _ _ _ _ Ih rfl rfl rfl rfl rfl rfl rfl rfl rfl rfl Lv (by decide+kernel) rfl Lw
section
variable {ck:Int->ByteArray->List Nat->ByteArray}
theorem AQ{s:bp}{od nd:List cF}(hr:∀kn,∀x∈(dk ck nd kn).1,fX s.nt x=false):lc ck od nd s=s:=by
 unfold lc;simp only
 have key:∀(l:List bq) (g:List (Int×List bq)),(∀x∈l,fX s.nt x=false)->l.foldl e3 (g,s)=(g,s):=by
  intro l;induction l with
  |nil=>intro g _;rfl
  |cons x l J=>
   intro g G;have hx:=G x eu;rw[dK];have:e3 (g,s) x=(g,s):=by unfold e3;rw[if_pos (.inr (.inr hx))]
   rw[this];exact J g fun y hy=>G y (cW _ hy)
 rw[key _ _ (hr _)]
theorem AR{z:Nat}{l:List Bool}{nt:List Tree}(hz:∀i,i<nt.length->(nt.getD i default).size=z)(ab:nt.length=1)(ak:l.length=z)(Y:∀i,i<z->1<=i->l.getD i false=true)(kn:List ByteArray)(x:bq)(hx:x∈(dk ck (aj 0 nt) kn).1):fX [l] x=false:=by
 obtain⟨h1,h2,J,O⟩:=rN nt kn x hx;have e:=hz _ h1;rw[e]at O;have G:x.module=0:=by omega
 unfold fX;rw[List.all_eq_false];refine⟨true,?_,by simp⟩;rw[G,Le,ij];have:=Y x.number (by omega) J;rw[bb,aE (by omega)]at this;refine⟨0,by rw[List.length_take,List.length_drop];omega,?_⟩;simpa using this
def dG(f:ByteArray):Tree:= .node 2 f [⟨#[32]⟩,⟨#[32]⟩,⟨#[]⟩,⟨#[]⟩,⟨#[]⟩,⟨#[32]⟩] [.node 5 ⟨#[]⟩ [⟨#[32]⟩] [],.node 21 ⟨#[43]⟩ [⟨#[32]⟩] [.node 10 ⟨#[49]⟩ [⟨#[32]⟩] [],.node 10 ⟨#[50]⟩ [⟨#[32]⟩] []]]
theorem nh(m f:ByteArray):aj 0 [b0 m f]=[⟨0,1,dG f⟩]:=rfl
def AU:List (Int×Int):=[(0,0),(1,1),(2,2),(3,3),(4,4)]
theorem Lx:(bE (aO (dG ⟨#[102]⟩)) (aO (dG ⟨#[103]⟩)) 100).aR=AU/\(bE (aO (dG ⟨#[102]⟩)) (aO (dG ⟨#[103]⟩)) 100).cost=1:=by
 have e:=H4 (kr (dG ⟨#[102]⟩)) (kr (dG ⟨#[103]⟩)) (by decide+kernel) (by decide+kernel) 100 (by decide+kernel) (by decide+kernel) (by decide+kernel) (by decide+kernel) (fun i G=>by
  obtain⟨j,rfl⟩:∃j,i=j+1:=⟨i-1,by omega⟩
  unfold nd aO dG;rw[ej,ej];simp only[dy,K8])
 refine⟨e.1.trans (by decide+kernel),e.2⟩
theorem Im:hI 100 (dG ⟨#[102]⟩) (dG ⟨#[103]⟩)=1:=by unfold hI;rw[Lx.2];decide+kernel
def jA(om nm:List Int)(oa na:List Int)(b:Bool)(p:Int×Int):bp:=⟨om,nm,oa,na,[[b,false,false,false,false,false]],[[b,false,false,false,false,false]],[[p,(-1,0),(-1,0),(-1,0),(-1,0),(-1,0)]],0,0⟩
theorem Io:l5 [b0 ⟨#[77]⟩ ⟨#[102]⟩] [b0 ⟨#[77]⟩ ⟨#[103]⟩] (cN [b0 ⟨#[77]⟩ ⟨#[102]⟩] [b0 ⟨#[77]⟩ ⟨#[103]⟩])=jA [0] [0] [-1] [-1] true (0,0):=by kernel_rfl
theorem Ip:l5 [b0 ⟨#[77]⟩ ⟨#[102]⟩] [b0 ⟨#[78]⟩ ⟨#[103]⟩] (cN [b0 ⟨#[77]⟩ ⟨#[102]⟩] [b0 ⟨#[78]⟩ ⟨#[103]⟩])=jA [-1] [-1] [-1] [-1] false (-1,0):=by kernel_rfl
theorem Iq(cost:Nat->Nat->Int)(drop add:Nat->Int)(hc:cost 0 0=1)(hd:drop 0=5)(ha:add 0=5):eX [-1] [-1] cost drop add=([0],[0]):=by have e:=H0 1 0 (by omega) cost drop add 5 hc hd ha (H6 5 (by omega) (by omega));exact e
theorem AV(m m':ByteArray)(om nm:List Int)(b:Bool)(p:Int×Int)(he:dh [-1] [-1] (la [⟨0,1,dG ⟨#[102]⟩⟩]) (km [⟨0,1,dG ⟨#[103]⟩⟩] nm)=([-1],[-1])):l4 100 [b0 m ⟨#[102]⟩] [b0 m' ⟨#[103]⟩] (jA om nm [-1] [-1] b p)=jA om nm [0] [0] b p:=by unfold l4;rw[nh,nh];simp only[jA];rw[he];rw[show dh [-1] [-1] (iw [⟨0,1,dG ⟨#[102]⟩⟩]) (iw [⟨0,1,dG ⟨#[103]⟩⟩])=([-1],[-1])from by decide+kernel];rw[Iq _ _ _ Im (by decide+kernel) (by decide+kernel)]
theorem AW(m m':ByteArray)(om nm:List Int)(b:Bool)(p:Int×Int):(kw 100 [b0 m ⟨#[102]⟩] [b0 m' ⟨#[103]⟩] (jA om nm [0] [0] b p)).rs=[[p,(0,1),(0,2),(0,3),(0,4),(0,5)]]/\(kw 100 [b0 m ⟨#[102]⟩] [b0 m' ⟨#[103]⟩] (jA om nm [0] [0] b p)).nt=[[b,true,true,true,true,true]]/\(kw 100 [b0 m ⟨#[102]⟩] [b0 m' ⟨#[103]⟩] (jA om nm [0] [0] b p)).cost=1:=by
 have e:ek 100 [⟨0,1,dG ⟨#[102]⟩⟩] [⟨0,1,dG ⟨#[103]⟩⟩] (jA om nm [0] [0] b p) 0=gX 0 1 0 1 AU {jA om nm [0] [0] b p with cost:=1,a7:=bS (0+(bE (aO (dG ⟨#[102]⟩)) (aO (dG ⟨#[103]⟩)) 100).a7)}:=by
  have hf:¬ge (jA om nm [0] [0] b p).oa ((0:Nat):Int)<0:=by show¬ge [0] ((0:Nat):Int)<0;decide
  unfold ek;simp only;rw[if_neg hf];show gX 0 1 0 1 (bE (aO (dG ⟨#[102]⟩)) (aO (dG ⟨#[103]⟩)) 100).aR ⟨om,nm,[0],[0],_,_,_,bS (0+(bE (aO (dG ⟨#[102]⟩)) (aO (dG ⟨#[103]⟩)) 100).cost),bS (0+(bE (aO (dG ⟨#[102]⟩)) (aO (dG ⟨#[103]⟩)) 100).a7)⟩=_;rw[Lx.1,Lx.2,show bS (0+1)=1 from zp (by omega) (by omega)];rfl
 have G:kw 100 [b0 m ⟨#[102]⟩] [b0 m' ⟨#[103]⟩] (jA om nm [0] [0] b p)=gF [⟨0,1,dG ⟨#[103]⟩⟩] (ek 100 [⟨0,1,dG ⟨#[102]⟩⟩] [⟨0,1,dG ⟨#[103]⟩⟩] (jA om nm [0] [0] b p) 0) 0:=by unfold kw;rw[nh,nh];rw[Bt,Bt,show aw 1=[0]from rfl,dK,fk,dK,fk]
 rw[G,e];generalize bS (0+(bE (aO (dG ⟨#[102]⟩)) (aO (dG ⟨#[103]⟩)) 100).a7)=z;refine⟨rfl,rfl,rfl⟩
theorem AX:(eD ck 100 [b0 ⟨#[77]⟩ ⟨#[102]⟩] [b0 ⟨#[77]⟩ ⟨#[103]⟩]).rs=[[(0,0),(0,1),(0,2),(0,3),(0,4),(0,5)]]/\(eD ck 100 [b0 ⟨#[77]⟩ ⟨#[102]⟩] [b0 ⟨#[77]⟩ ⟨#[103]⟩]).cost=1:=by
 have e:=AW ⟨#[77]⟩ ⟨#[77]⟩ [0] [0] true (0,0);unfold eD;rw[Io,AV _ _ _ _ _ _ (by decide+kernel)];rw[AQ fun kn x hx=>by rw[e.2.1];exact AR (z:=6) (by decide+kernel) rfl rfl (by decide+kernel) kn x hx]
 exact⟨e.1,e.2.2⟩
theorem Ir:(eD ck 100 [b0 ⟨#[77]⟩ ⟨#[102]⟩] [b0 ⟨#[78]⟩ ⟨#[103]⟩]).rs=[[(-1,0),(0,1),(0,2),(0,3),(0,4),(0,5)]]:=by
 have e:=AW ⟨#[77]⟩ ⟨#[78]⟩ [-1] [-1] false (-1,0);unfold eD;rw[Ip,AV _ _ _ _ _ _ (by decide+kernel)];rw[AQ fun kn x hx=>by rw[e.2.1];exact AR (z:=6) (by decide+kernel) rfl rfl (by decide+kernel) kn x hx]
 exact e.1
end
theorem LX{k:Int}{s s':ByteArray}{l l':List ByteArray}{G:List Tree}(h:dw (.node k s l G))(hs:fu k s'=true):dw (.node k s' l' G):=by obtain⟨e,f⟩:=h;obtain⟨g1,g2⟩:=Af hs;rw[Tree.ia]at f;rw[ep,cy,cy]at e;exact⟨by rw[ep,e.1,g1,e.2.2];rfl,by rw[Tree.ia];exact⟨g2,f.2⟩⟩
theorem LI(k:Int)(n:Nat)(u:Tree)(J:ep u=true):∀(i:Nat) (G:List Tree) (d:Nat) (hd:d<G.length),u.kind=G[d].kind->fZ k n i G=true->fZ k n i (G.set d u)=true
 |i,t::ts,0,_,e,h=>by rw[fZ,cy,cy]at h;rw[nu,fZ,e];show(jb k n i t.kind&&(ep u&&fZ k n (i+1) ts))=true;rw[h.1,J,h.2.2];rfl
 |i,t::ts,d+1,hd,e,h=>by rw[fZ,cy,cy]at h;rw[bf,fZ,h.1,h.2.1,LI k n u J (i+1) ts d (by simpa using hd) e h.2.2];rfl
theorem LJ(u:Tree)(G:u.ia):∀(J:List Tree) (d:Nat),ib J->ib (J.set d u)
 |[],d,h=>h
 |t::ts,0,h=>by rw[ib]at h;rw[nu,ib];exact⟨G,h.2⟩
 |t::ts,d+1,h=>by rw[ib]at h;rw[bf,ib];exact⟨h.1,LJ u G ts d h.2⟩
theorem LY{k:Int}{s:ByteArray}{l l':List ByteArray}{G:List Tree}(h:dw (.node k s l G))(d:Nat)(hd:d<G.length)(u:Tree)(e:u.kind=G[d].kind)(J:dw u):dw (.node k s l' (G.set d u)):=by obtain⟨a,f⟩:=h;rw[Tree.ia]at f;rw[ep,cy,cy]at a;exact⟨by rw[ep,KW,a.1,a.2.1,LI k G.length u J.1 0 G d hd e a.2.2];rfl,by rw[Tree.ia];exact⟨f.1,LJ u J.2 G d f.2⟩⟩
def K0(ts:List Tree)(m d:Nat)(s:ByteArray):List Tree:=
 ts.set m (.node (ts.getD m default).kind (ts.getD m default).text (ts.getD m default).leads ((ts.getD m default).kids.set d (.node ((ts.getD m default).kids.getD d default).kind s ((ts.getD m default).kids.getD d default).leads ((ts.getD m default).kids.getD d default).kids)))
theorem LZ{ts:List Tree}(h:MP ts){m d:Nat}(hm:m<ts.length)(hd:d<(ts.getD m default).kids.length){s:ByteArray}(hs:fu ((ts.getD m default).kids.getD d default).kind s=true):MQ (K0 ts m d s):=by
 unfold K0;refine⟨by rw[KW];exact h.1,fun t G=> ?_⟩;rcases qu G with G|rfl;·exact(h.2 t G).mn
 ·have M:=(h.at hm).mn;have O:(ts.getD m default).kids.getD d default=(ts.getD m default).kids[d]:=getD_at hd;have D:=M.2.2.1 _ (by rw[O];exact aK hd:(ts.getD m default).kids.getD d default∈(ts.getD m default).kids);generalize ts.getD m default=ab at*;generalize hx:ab.kids.getD d default=x at*;have Y:dw (.node x.kind s x.leads x.kids):=by obtain⟨k,s0,l,J⟩:=x;exact LX D.2 hs
  have hz:(Tree.node x.kind s x.leads x.kids).size=x.size:=by rw[Tree.size,Tree.size_eq x]
  obtain⟨k,s0,l,J⟩:=ab;refine⟨M.1,by show(J.set d _).length<=3;rw[KW];exact M.2.1,fun e he=> ?_,LY M.2.2.2 d hd _ (by show x.kind=_;rw[O];rfl) Y⟩;rcases qu (show e∈J.set d _ from he)with he|rfl;·exact M.2.2.1 e he
  ·exact⟨⟨by rw[hz];exact D.1.1,D.1.2⟩,Y⟩
end Go.Proofs.YtdplggpbgommnaaGreatDoor
