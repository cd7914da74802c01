/- A program in which one definition gets a name that occurs nowhere is paired with itself: in plain words. -/
import Derived.Test.YtdplggpbgommnaaGreatDoorPg
import Derived.Test.YtdplggpbgommnaaGreatDoorKj
open Bool renaming and_eq_true->cy
open Go renaming bodyPost_ret->aF
open Go.ByteArray renaming toList_eq->eT
open Go.IntKind renaming i64->ae
open Go.Lib renaming hid->aa
open Go.Obj renaming cells->au
open Go.Proofs.Tryz renaming prog->ai
open Go.RowKit.Below renaming heap_setCell->cH
open Go.Value renaming agg->aq,int->af,pointer->az,slice->ag,string->ah,tuple->bD
open Go.Value.slice renaming injEq->bU
open Go.World renaming cell?_alloc_at->cJ
open List renaming ext_getElem->v8,foldl_cons->dK,foldl_nil->fk,getElem?_cons_succ->bQ,getElem?_cons_zero->bc,getElem?_eq_getElem->aE,getElem?_toArray->bw,getElem_mem->aK,length_cons->bF,length_map->dL,length_nil->cL,length_singleton->Bt,length_take->mb,map_cons->cR,mem_cons_of_mem->cW,mem_cons_self->eu,mem_map->b6,mem_range->ee,range_succ->dx,range->aw,setIfInBounds_toArray->bh,set_cons_zero->nu
open List.Pairwise renaming imp->pk
open Nat renaming add_mul->gN,eq_zero_or_pos->et,le_refl->kI,lt_of_lt_of_le->bK,mul_le_mul_right->mq,sub_zero->qv
open Option.some renaming injEq->aC,inj->aU
set_option maxRecDepth 100000
set_option maxHeartbeats 4000000
namespace Go.Proofs.YtdplggpbgommnaaGreatDoor
open Go.RowKit
theorem filter_one(z n:Nat)(hz:z<n):(aw n).filter (fun i=>decide (i=z))=[z]:=by
 induction n with
 |zero=>omega
 |succ n J=>
  rw[dx,List.filter_append];by_cases e:z=n
  ·subst e;have:(aw z).filter (fun i=>decide (i=z))=[]:=by rw[List.filter_eq_nil_iff];intro i G;have:=ee.1 G;simp only[decide_eq_true_eq];omega
   rw[this];simp
  ·rw[J (by omega)];simp[show n≠z by omega]
theorem HZ(n z:Nat)(hz:z<n):dp (cd n fun i=>decide (i≠z))=[z]:=by
 rw[<-filter_one z n hz];unfold dp;rw[qh];apply List.filter_congr;intro i G;rw[zr n _ i (ee.1 G)];by_cases e:i=z;·subst e;simp
 ·simp[e]
theorem H0(n z:Nat)(hz:z<n)(cost:Nat->Nat->Int)(drop add:Nat->Int)(a:Nat)(hc:cost z z=1)(hd:drop z=a)(ha:add z=a)(hs:mA [[1,(a:Int)],[(a:Int),0]]=[0,1]):eX (cd n fun i=>decide (i≠z)) (cd n fun i=>decide (i≠z)) cost drop add=(cd n fun _=>true,cd n fun _=>true):=by
 unfold eX;simp only[HZ n z hz];have J:gp [z] [z] cost drop add=[[1,(a:Int)],[(a:Int),0]]:=by simp[gp,lG,dx,hc,hd,ha]
 rw[J,hs]
 have G:(cd n fun i=>decide (i≠z)).set z (z:Int)=cd n fun _=>true:=by
  apply v8;·simp[cd]
  ·intro i h1 h2;simp only[cd,List.getElem_set,List.getElem_map,List.getElem_range];by_cases e:z=i;·simp[e]
   ·have e':¬i=z:=fun h=>e h.symm;simp[e,e']
 have O:(fun i=>decide (i≠z))=fun i=> !decide (i=z):=by funext i;simp
 rw[O]at G;simp[nC,oJ,dx,ge,gm,G]
section
variable {ck:Int->ByteArray->List Nat->ByteArray}
end
theorem AK:∀(ts:List Tree) (n:Nat),dC (aN ts) n=dC ts n
 |[],_=>by rw[aN]
 |t::ts,n=>by rw[aN,dC,dC,l3,AK ts]
mutual
theorem AL:∀(t:Tree) (p:Int) (n:Nat),ej t.bare p n=ej t p n
 | .node k s l G,p,n=>by rw[Tree.bare,ej,ej,AK,uT,AM G]
theorem AM:∀(ts:List Tree) (p n:Nat),eJ (aN ts) p n=eJ ts p n
 |[],_,_=>by rw[aN]
 |t::ts,p,n=>by rw[aN,eJ,eJ,AL t,l3,AM ts]
end
theorem H4{x y:List aB}(J:PO x)(Y:PO y)(nx:ct x=true)(aQ:ct y=true)(budget:Int)(aG:((x.length*y.length:Nat):Int)<=budget)(aT:y.length=x.length)(aJ:(nd x 0).kind=(nd y 0).kind)(aN:(nd x 0).text≠(nd y 0).text)(hs:∀i:Nat,0<i->nd y (i:Int)=nd x (i:Int)):(bE x y budget).aR=dT x.length/\(bE x y budget).cost=1:=by
 have aX:=J.wf.pos;obtain⟨n,hn⟩:∃n,x.length=n+1:=⟨x.length-1,by omega⟩
 have ax:c6 (dT x.length):=by unfold c6 dT;rw[List.pairwise_map];exact pk (fun{a b} h=>by simp only;omega) List.pairwise_lt_range
 have hw:∀(l:List Nat),(∀i∈l,0<i)->eO x y (l.map fun(i:Nat)=>((i:Int),(i:Int)))= -2*(l.length:Int):=by
  intro l;induction l with
  |nil=>intro _;simp[eO]
  |cons a l aO=>intro h;rw[cR,qc,aO (fun i G=>h i (cW _ G)),bF];simp only;rw[hs a (h a eu)];unfold cZ;rw[if_pos rfl];omega
 have hid:dT x.length=(0,0)::((aw n).map Nat.succ).map fun(i:Nat)=>((i:Int),(i:Int)):=by rw[hn];unfold dT;rw[List.range_succ_eq_map];rfl
 have am:dP x y (dT x.length)=some 1:=by
  rw[uE J Y ax,aC];·rw[hid,qc,hw _ (fun i G=>by obtain⟨j,_,rfl⟩:=b6.1 G;omega),dL,List.length_range];unfold cZ;rw[if_neg aN];omega
  ·intro q O;obtain⟨i,G,rfl⟩:=b6.1 O;have:=ee.1 G;refine⟨⟨by simp,by simp only;omega,by simp,by simp only;omega⟩,?_⟩;rcases et i with rfl|h;·exact aJ
   ·simp only;rw[hs i h]
  ·rw[hid];rfl
  ·intro q O aM;obtain⟨i,G,rfl⟩:=b6.1 O;have G:=ee.1 G
   have ab:0<i:=by
    rcases et i with rfl|h;·exact absurd rfl aM
    ·exact h
   obtain⟨j,a2,aZ,a1,aP,_⟩:=J.wf.par i _ (aE G) ab;have e:fC x y ((i:Int),(i:Int))=((j:Int),(j:Int)):=by unfold fC;simp only;rw[hs i ab,nL (aE G),aP]
   rw[e];exact b6.2 ⟨j,ee.2 (by omega),rfl⟩
 have h1:=zi J Y nx aQ budget aG am;have hp:=qf J Y budget;obtain⟨e,ha,G⟩:=qe hp;have aY:=qd x y (bE x y budget).aR;have aV:=uH ha G;have aL:(bE x y budget).aR.length=x.length:=by omega
 have ak:(bE x y budget).aR=dT x.length:=by
  apply v8;·rw[aL];simp[dT]
  ·intro i aj aS;have g1:=uK ha (fun p hp=>⟨(G p hp).1,(G p hp).2.2.1⟩) i aj;have g2:=uL (n:=x.length) ha (fun p hp=>⟨(G p hp).2.1,by have:=(G p hp).2.2.2;omega⟩) (x.length-i-1) i aj (by omega);have ao:(dT x.length)[i]=((i:Int),(i:Int)):=by simp[dT]
   rw[ao];exact Prod.ext (by simp only;omega) (by simp only;omega)
 rw[ak,am]at hp;exact⟨ak,(aU hp).symm⟩
theorem H5:∀a:Nat,a<200->mA [[1,((a+1:Nat):Int)],[((a+1:Nat):Int),0]]=[0,1]:=by decide+kernel
theorem H6(a:Nat)(G:0<a)(h:a<200):mA [[1,(a:Int)],[(a:Int),0]]=[0,1]:=by
 obtain⟨b,rfl⟩:∃b,a=b+1:=⟨a-1,by omega⟩
 exact H5 b (by omega)
theorem Mn(M:List (List Int))(i G:Nat)(J:i<M.length)(O:G<M.length)(h:ge (mA M) i=ge (mA M) G):i=G:=by
 obtain⟨s,e,C⟩:=wq M;have hc:mA M=s.tq:=by unfold mA;rw[e];rfl
 rw[hc]at h;obtain⟨j,_,ab,ak⟩:=C.a i J;obtain⟨Y,_,aj,am⟩:=C.a G O;have:j=Y:=by omega
 subst this;omega
mutual
theorem Jr:∀(t:Tree) (p:Int) (n:Nat),(ej t p n).map (·.kind)=iZ t
 | .node k s l G,p,n=>by rw[ej,iZ,cR,Js G]
theorem Js:∀(ts:List Tree) (p n:Nat),(eJ ts p n).map (·.kind)=ja ts
 |[],_,_=>by rw[eJ,ja];rfl
 |t::ts,p,n=>by rw[eJ,ja,List.map_append,Jr t,Js ts]
end
theorem Jt(t:Tree)(p:Int)(G:0<=p)(h1:p<t.size):(iZ t)[p.toNat]? =some (nd (aO t) p).kind:=by rw[<-Jr t (-1) 0,List.getElem?_map];have:=gV (x:=aO t) G (by rw[nJ];exact h1);unfold aO at this;rw[this];rfl
theorem Mo{x y:List aB}(J:PO x)(O:PO y)(budget:Int):0<=(bE x y budget).a7:=by
 have hc:=(uI (qf J O budget)).2.2;unfold bE at hc⊢;by_cases G:(nd x 0).kind=(nd y 0).kind
 ·rw[if_pos G]at hc⊢;by_cases hn:ct x=true/\ct y=true
  ·rw[if_pos hn]at hc⊢;cases hq:fB x y budget with
   |none=>show(0:Int)<=max ((x.length:Int)-y.length) (-((x.length:Int)-y.length));omega
   |some l=>rw[hq]at hc;exact hc
  ·rw[if_neg hn];show(0:Int)<=max ((x.length:Int)-y.length) (-((x.length:Int)-y.length));omega
 ·rw[if_neg G];show(0:Int)<=(x.length:Int)+y.length;omega
theorem Mp(a b:Tree)(ha:a.size<=262144)(ak:b.size<=262144)(budget:Int):(bE (aO a) (aO b) budget).aR.Pairwise (fun p q=>p.1≠q.1)/\(∀p∈(bE (aO a) (aO b) budget).aR,0<=p.1/\p.1<a.size/\0<=p.2/\p.2<b.size/\(iZ a)[p.1.toNat]? =(iZ b)[p.2.toNat]?)/\0<=(bE (aO a) (aO b) budget).a7/\(bE (aO a) (aO b) budget).a7<=(bE (aO a) (aO b) budget).cost/\(bE (aO a) (aO b) budget).cost<=524288:=by have hp:=qf (kr a) (kr b) budget;obtain⟨-,h2,-⟩:=qe hp;obtain⟨-,-,aj⟩:=tU _ _ _ [] _ _ hp (by simp[c6]);have hc:=Gq a b budget;refine⟨h2.imp fun h=>by omega,fun p G=> ?_,Mo (kr a) (kr b) budget,Md (kr a) (kr b) budget budget,by omega⟩;obtain⟨J,O,Y,ab⟩:=Gn a b budget p G;obtain⟨u,v,e⟩:=List.append_of_mem G;have ok:=aj u p v e;refine⟨J,O,Y,ab,?_⟩;rw[Jt a p.1 J O,Jt b p.2 Y ab,ok.2.2.2.2.1]
section
variable {ck:Int->ByteArray->List Nat->ByteArray}
theorem Mq(am:nY ck){ot nt:List Tree}(budget:Int)(K:Int)(ab:∀i,i<ot.length->(ot.getD i default).kind=K)(hn:∀i,i<nt.length->(nt.getD i default).kind=K)(O:(aj 0 ot).length<=1000000)(Y:(aj 0 nt).length<=1000000)(G:∀d∈aj 0 ot,d.t.size<=262144)(J:∀d∈aj 0 nt,d.t.size<=262144):(∃U,eF ot nt U (eD ck budget ot nt))/\(eD ck budget ot nt).a7<=(eD ck budget ot nt).cost:=
 Mm am K ab hn (fun M i ak h1 h2 h=>Mn M i ak h1 h2 h) O Y G J (fun d hd e he=>Mp d.t e.t (G d hd) (J e he) budget) (rN ot []) (rN nt _)
end
def AN(h:Hp)(w:World)(p:Nat)(name l0 l1:ByteArray)(T:Tree)(v:Value)(w':World):Prop:=
 ∃(h':Hp) (b2 g9 c9:Nat) (cells:List Value),v=aq #[af ae 1,ah name,ag (some ⟨b2,0,none⟩) 3 3,ag (some ⟨g9,0,none⟩) 1 c9]/\bB p h w h' w'/\bJ h' w' p []/\Has w' b2 #[ah l0,ah l1,ah ⟨#[]⟩]/\h' b2=none/\w.heap.size<=b2/\b2≠p/\Sl h' (ag (some ⟨g9,0,none⟩) 1 c9) 1 4 cells/\aJ (bg h') [T] cells
theorem H8{p b1 b2 b3 G J:Nat}{h Y:Hp}{w W:World}{name ak am:ByteArray}{T:Tree}{ao ax aB aG:Value}(D:eb p b1 b2 b3 h w Y W [] 1 name 3 #[ah ak,ah am,ah ⟨#[]⟩] (ag (some ⟨G,0,none⟩) 1 J))(aj:Ow W Y b1 26 4 (ag (some ⟨G,0,none⟩) 1 J) 1 [ao,ax,aB,aG])(E:aP Y (aq #[ao,ax,aB,aG]) T)(ab:G≠b1/\G≠b2/\G≠b3/\G≠p):AN h w p name ak am T (aq #[af ae 1,ah name,ag (some ⟨b2,0,none⟩) 3 3,ag (some ⟨G,0,none⟩) 1 J]) ((((W.setCell ⟨b1,0,none⟩ (af ae 1)).setCell ⟨b1,1,none⟩ (ah name)).setCell ⟨b1,2,none⟩ (ag (some ⟨b2,0,none⟩) 3 3)).setCell ⟨b1,3,none⟩ (ag (some ⟨G,0,none⟩) 1 J)):=by
 obtain⟨h',aO,l2,aL,aQ⟩:=aj.giveUp D.st.I (by omega);have O:∀b,b≠G->h' b=Y b:=fun b h2=>aL b (fun g aN=>by have e:G=g:=aU aN;subst e;exact h2)
 have aT:=(aj.lt G rfl).1;have aS:=D.g1;have S:bB p h w h' W:=⟨D.st.gr,aO,Hp.le_trans D.st.le l2,fun b aM=>(O b (by omega)).trans (D.st.aI b aM)⟩
 have Q:bJ h' W p []:=D.par.keep rfl (kI _) l2 ((O p (fun e=>ab.2.2.2 e.symm)).trans D.par.no);exact⟨h',b2,G,J,_,rfl,S.aM D.g1 ((O b1 (fun e=>ab.1 e.symm)).trans D.n1) _ _ _ _,Q.aM D.p1 _ _ _ _,D.r.o4 D.d12 _ _ _ _,(O b2 (fun e=>ab.2.1 e.symm)).trans D.n2,D.g2,D.p2,aQ,aJ.one ((u0 E).mono l2)⟩
theorem H9{h:Hp}{v:Value}{s O Y l2 ab aj ak:ByteArray}{a b:Tree}(T:aP h v (.node 2 s [O,Y,l2,ab,aj,ak] [a,b])):∃al J G ck,v=aq #[af ae 2,ah s,ag al 6 J,ag G 2 ck]:=by obtain⟨_,_,_,_,_,e,_⟩:=T.open;exact⟨_,_,_,_,e⟩
theorem Ia(h:Hp)(w:World)(bO:ao h w)(p:Nat)(aL J d n l r c ty e ab ax aj:cU)(q:bJ h w p [aL,J,d,n,l,r,c,ty,e,ab,ax,aj])(cj:aL.text=⟨#[109,111,100,117,108,101]⟩)(cl:J.kind=2)(hd:d.text=⟨#[100,101,102]⟩)(hn:n.kind=1)(ch:l.text=⟨#[40]⟩)(hr:r.text=⟨#[41]⟩)(hc:c.text=⟨#[58]⟩)(co:ty.text=⟨#[73,110,116]⟩)(he:e.text=⟨#[61]⟩)(k1:ab.kind=5)(cG:lm ab.text)(cw:mV ax.text=true)(k3:aj.kind=5)(cM:lm aj.text):Calls ai 44 #[az (some ⟨p,0,none⟩)] w fun e' w'=>∃v,e'= .returned v/\AN h w p J.text aL.lead J.lead (.node 2 n.text [d.lead,n.lead,l.lead,r.lead,c.lead,e.lead] [.node 5 ⟨#[]⟩ [ty.lead] [],.node 21 ax.text [ax.lead] [.node 10 ab.text [ab.lead] [],.node 10 aj.text [aj.lead] []]]) v w':=by
 have a3:=aa bO;have Q:=aa q;have dU:w.heap.size≠p:=by have:=q.lt;omega
 have cX:=nX;have dt:∀W:World,(Instr.makeSlice 24 (af ae 3) (af ae 3)).run ai W= .ok (ag (some ⟨W.heap.size,0,none⟩) 3 3) (W.alloc (.cells #[ah ⟨#[]⟩,ah ⟨#[]⟩,ah ⟨#[]⟩] 9)):=fun W=>(zR 3 (by omega) W).trans (by rw[show madeCells #[ah ⟨#[]⟩] (3*1)= #[ah ⟨#[]⟩,ah ⟨#[]⟩,ah ⟨#[]⟩]from by kernel_rfl]);clear bO q;go_in;go_wp2_with fail;have hp:=Q.out.lt
 have am:Hid (eb p w.heap.size (w.heap.size+1) (w.heap.size+1+1) h w h (((w.alloc (au #[af ae 0,ah ⟨#[]⟩,ag none 0 0,ag none 0 0] 26)).alloc (au #[ah ⟨#[]⟩,ah ⟨#[]⟩,ah ⟨#[]⟩] 9)).alloc (au #[af ae 1,ah ⟨#[]⟩,ag (some ⟨w.heap.size+1,0,none⟩) 3 3,ag none 0 0] 26)) [aL,J,d,n,l,r,c,ty,e,ab,ax,aj] 1 ⟨#[]⟩ 3 #[ah ⟨#[]⟩,ah ⟨#[]⟩,ah ⟨#[]⟩] (ag none 0 0)):=by
  have cd:((w.alloc (au #[af ae 0,ah ⟨#[]⟩,ag none 0 0,ag none 0 0] 26)).alloc (au #[ah ⟨#[]⟩,ah ⟨#[]⟩,ah ⟨#[]⟩] 9)).heap.size=w.heap.size+1+1:=by simp
  have y:=Has.new ((w.alloc (au #[af ae 0,ah ⟨#[]⟩,ag none 0 0,ag none 0 0] 26)).alloc (au #[ah ⟨#[]⟩,ah ⟨#[]⟩,ah ⟨#[]⟩] 9)) #[af ae 1,ah ⟨#[]⟩,ag (some ⟨w.heap.size+1,0,none⟩) 3 3,ag none 0 0] 26;rw[cd]at y;exact⟨(((bB.refl a3.out).alloc _).alloc _).alloc _,((Q.out.alloc _).alloc _).alloc _,((Has.new w _ _).alloc _).alloc _,(Has.kY w _ _ _).alloc _,y,bI a3.out _ (by omega),bI a3.out _ (by omega),bI a3.out _ (by omega),by omega,by omega,by omega,by omega,by omega,by omega,by omega,by omega,by omega⟩
 generalize((w.alloc (au #[af ae 0,ah ⟨#[]⟩,ag none 0 0,ag none 0 0] 26)).alloc (au #[ah ⟨#[]⟩,ah ⟨#[]⟩,ah ⟨#[]⟩] 9)).alloc (au #[af ae 1,ah ⟨#[]⟩,ag (some ⟨w.heap.size+1,0,none⟩) 3 3,ag none 0 0] 26)=w0 at*;have dh:w.heap.size≠w.heap.size+1:=by omega
 have di:w.heap.size≠w.heap.size+1+1:=by omega
 have ce:w.heap.size+1≠w.heap.size+1+1:=by omega
 have dk:w.heap.size+1+1≠w.heap.size+1:=by omega
 generalize w.heap.size+1+1=b3 at*;generalize w.heap.size+1=b2 at*;generalize w.heap.size=b1 at*;have a1:=am.out.b.cl 2;have aZ:=am.out.b.cl 1;have a9:=am.out.b.fz 1;have ba:=am.out.r.fz 0;have aS:=am.out.r.cl 0;have bA:=am.out.r.lt;have a2:=am.out.b.lt;simp only[bw,bc,bQ]at aZ a1 aS;go_region_held3(fun w'=>w'.cell? ⟨b3,2,none⟩=some (ag (some ⟨b2,0,none⟩) 3 3)) (first|(go_keep;done)|exact aJ) (first|(go_at_call 90;(with_reducible refine(o3 h _ (by exact am.out.st.I.drew) p aL [J,d,n,l,r,c,ty,e,ab,ax,aj] (by exact am.out.par.drew) _ cj).mono ?_);rintro e' ak ⟨rfl,aN,aM⟩;have G:=aa (am.out.drew.call aN aM);have aJ:=G.out.b.cl 2;have bd:=G.out.r.fz 0;have aT:=G.out.r.cl 0;have bC:=G.out.r.lt;have a5:=G.out.b.lt;simp only[bw,bc,bQ]at aJ aT;clear aN aM));have O:=aa (G.out.lead 0 (by simp) (ah aL.lead));simp only[bh,nu]at O;clear aZ a1 a9 ba aS bA a2;clear aJ bd aT bC a5 G;generalize ak.setCell ⟨b2,0,none⟩ (ah aL.lead)=du at*;go_wp2_with fail;have a1:=O.out.b.cl 2;have aZ:=O.out.b.cl 1;have a9:=O.out.b.fz 1;have ba:=O.out.r.fz 1;have aS:=O.out.r.cl 1;have bA:=O.out.r.lt;have a2:=O.out.b.lt;simp only[bw,bc,bQ]at aZ a1 aS;go_region_held3(fun w'=>w'.cell? ⟨b3,2,none⟩=some (ag (some ⟨b2,0,none⟩) 3 3)) (first|(go_keep;done)|exact aJ|exact rX (by decide) aJ|exact zS ce (rX (by decide) aJ)) (first|(go_at_call 91;(with_reducible refine(zj h _ (by exact O.out.st.I.drew) p J [d,n,l,r,c,ty,e,ab,ax,aj] (by exact O.out.par.drew) 2 2 cl (by omega)).mono ?_);rintro e' ak ⟨rfl,aN,aM⟩;have G:=aa (O.out.drew.call aN aM);have aJ:=G.out.b.cl 2;have bR:=G.out.b.cl 1;have bZ:=G.out.b.fz 1;have bd:=G.out.r.fz 1;have aT:=G.out.r.cl 1;have bC:=G.out.r.lt;have a5:=G.out.b.lt;simp only[bw,bc,bQ]at bR aJ aT;clear aN aM));have aB:=aa ((G.out.named J.text).lead 1 (by simp) (ah J.lead));simp only[bh,nu,List.set_cons_succ]at aB;clear aZ a1 a9 ba aS bA a2;clear bR aJ bZ bd aT bC a5 G;generalize(ak.setCell ⟨b3,1,none⟩ (ah J.text)).setCell ⟨b2,1,none⟩ (ah J.lead)=cF at*;have L2:=aa aB.out.par.left;go_wp2_with fail;go_loopw[] (fun wr=>wr=cF\/∃(a4:Hp) (aG aX:Nat) (bp bq bv bz:Value),eb p b1 b2 b3 h w a4 wr [] 1 J.text 3 #[ah aL.lead,ah J.lead,ah ⟨#[]⟩] (ag (some ⟨aG,0,none⟩) 1 aX)/\Ow wr a4 b1 26 4 (ag (some ⟨aG,0,none⟩) 1 aX) 1 [bp,bq,bv,bz]/\aP a4 (aq #[bp,bq,bv,bz]) (.node 2 n.text [d.lead,n.lead,l.lead,r.lead,c.lead,e.lead] [.node 5 ⟨#[]⟩ [ty.lead] [],.node 21 ax.text [ax.lead] [.node 10 ab.text [ab.lead] [],.node 10 aj.text [aj.lead] []]])/\aG≠b1/\aG≠b2/\aG≠b3/\aG≠p) (fun wr=>rQ wr p);case atStart=>exact .inl rfl
 case round=>
  rcases hrel with rfl|⟨a4,aG,aX,bp,bq,bv,bz,Y,bH,bL,cv⟩
  ·obtain⟨bk,ok,ck,cz,cB,b0,aO,-,dT,-,dF,cN,cQ,-,-⟩:=aB.out.par.tok aB.out.st.I;have bE:=aO.cl 0;have cV:=aO.lt;simp only[bw,bc,bF,cL]at bE;clear aO;go_wp2_with fail;refine(mU h _ aB.out.st.I p d _ aB.out.par).mono ?_;rintro e' ak ⟨rfl,bg⟩;have aQ:=aa (aB.out.call (bB.below aB.out.st.I bg) (aB.out.par.below bg));rw[hd];clear bg;have cq:=aQ.out.b.cl 3;have aS:=aQ.out.b.fz 3;have a2:=aQ.out.b.lt;simp only[bw,bc,bQ]at cq;generalize ak=dv at*;go_wp2_with fail;go_region_law(first|(go_simp;go_at_call 94;(with_reducible refine(Hb h _ (by exact aQ.out.st.I.drew) p d n l r c ty e ab ax aj (by exact aQ.out.par.drew) hd hn ch hr hc co he k1 cG cw k3 cM).mono ?_);rintro e' ak ⟨dw,rfl,cf,aN,aM,a8⟩;obtain⟨cE,uc,cD,cC,rfl⟩:=H9 a8;have G:=aa (aQ.out.drew.call aN aM);have bY:=aa a8;have ct:=G.out.b.cl 3;have aT:=G.out.b.fz 3;have a5:=G.out.b.lt;have dQ:b3<ak.heap.size+1:=(by omega);simp only[bw,bc,bQ]at ct;clear aN aM a8)|(refine gS iJ (by rfl) _ _ (by rfl) (St.dN (B:=ak.heap.size) (by exact(G.out.alloc _).st.I) (by simp)) (ag none 0 0) 0 [] (by rfl) (Ow.nil _ _ _ _ _) ⟨ak.heap.size,0,none⟩ 1 1 [af ae 2,ah n.text,ag cE 6 uc,ag cD 2 cC] (by rfl) (by rfl) (cK _ _ _ _ (by simp)) (cm _ rfl) (by omega) (by omega) ?_;intro aY cg dA cA bm bN b9;have aV:=aa ((G.out.alloc _).grown bN (fun g e=>(by simp[Value.ownBlock]at e)));have bV:=aa bm;have bS:Hid (ak.heap.size<=aY):=(bm.lt aY rfl).1;have cu:=aV.out.b.cl 3;have cY:=aV.out.b.fz 3;have dR:=aV.out.b.lt;simp only[bw,bc,bQ]at cu;clear cA bm bN b9))
   all_goals
    go_wp2_with fail;go_roundw
    case rel=>
     have cN:=G.out.x.lt;have cQ:=G.out.r.lt;have dG:=G.out.b.lt;have dN:=G.out.par.lt;have dO:=bS.out;have cS:b1<=ak.heap.size:=by omega
     exact .inr ⟨cf,aY,cg,_,_,_,_,aV.out.b4 _,(bV.out.base cS).setCell (p:=⟨b3,3,none⟩) (fun q=>by have q':aY=b3:=aU q;omega) _,bY.out,by omega,by omega,by omega,by omega⟩
    case measure=>have cn:=(aV.out.b4 (ag (some ⟨aY,0,none⟩) 1 cg)).par.left;have ci:=L2.out;simp only[cL,bF]at cn ci;omega
  ·have bG:=aa Y;have bT:=aa bH;have bX:=aa bL;obtain⟨cZ,ck,cz,cB,b0,aO,-⟩:=Y.par.row;have bE:=aO.cl 0;have cV:=aO.lt;obtain⟨c6,c8,c9,dg⟩:=Y.b.jU;obtain⟨dB,dC,dD,dE⟩:=Y.x.jU;have dm:=Y.x.fz 0;have dn:=Y.x.fz 1;have dp:=Y.x.fz 2;have dr:=Y.x.fz 3;have dP:=Y.x.lt;have a2:=Y.b.lt;simp only[bw,bc,cL]at bE;clear aO Y bH bL;go_wp2_with fail;obtain⟨cc,c1,c2,c3⟩:=(bG.out.x.mW (af ae 1) (ah J.text) (ag (some ⟨b2,0,none⟩) 3 3) (ag (some ⟨aG,0,none⟩) 1 aX)).jU;refine aF (v:=aq #[af ae 1,ah J.text,ag (some ⟨b2,0,none⟩) 3 3,ag (some ⟨aG,0,none⟩) 1 aX]) (by simp[results,Tryz.results44,go_sem,cc,c1,c2,c3]) rfl ⟨_,rfl,H8 bG.out bT.out bX.out cv⟩
theorem AO(h:Hp)(b:Nat)(c:Array Value):(h.add b c) b=some c:=by unfold Hp.add;rw[if_pos rfl]
theorem AP{h:Hp}{b2 J G:Nat}{name O Y l2:ByteArray}{T:Tree}{cells:List Value}(aj:h b2=some #[ah O,ah Y,ah l2])(ak:Sl h (ag (some ⟨J,0,none⟩) 1 G) 1 4 cells)(ab:aJ (bg h) [T] cells):aP h (aq #[af ae 1,ah name,ag (some ⟨b2,0,none⟩) 3 3,ag (some ⟨J,0,none⟩) 1 G]) (.node 1 name [O,Y,l2] [T]):=by refine⟨_,rfl,?_⟩;rw[bg];exact⟨_,_,_,_,cells,rfl,by unfold aG;omega,⟨_,_,rfl,by simp,rfl,.inr ⟨b2,0,_,rfl,aj,fun i am=>by simp⟩⟩,ak,eH.iff.2 ab⟩
theorem u9(h:Hp)(w:World)(bC:ao h w)(s:ByteArray)(hs:s.size<=4096)(bB:∀i,i<s.size->bt s i≠35)(J G d n l r c ty e aj ax ak:cU)(tail:ByteArray)(hsc:oT s=([J,G,d,n,l,r,c,ty,e,aj,ax,ak],tail,0,0))(cj:J.text=⟨#[109,111,100,117,108,101]⟩)(cl:G.kind=2)(hd:d.text=⟨#[100,101,102]⟩)(hn:n.kind=1)(ci:l.text=⟨#[40]⟩)(hr:r.text=⟨#[41]⟩)(hc:c.text=⟨#[58]⟩)(cm:ty.text=⟨#[73,110,116]⟩)(he:e.text=⟨#[61]⟩)(k1:aj.kind=5)(cu:lm aj.text)(cq:mV ax.text=true)(k3:ak.kind=5)(cv:lm ak.text):
  Calls ai 21 #[ah s] w fun e' w'=>∃v,e'= .returned (bD #[v,af ae 0,af ae 0])/\∃h',St w.heap.size h w h' w'/\aP h' v (.node 1 G.text [J.lead,G.lead,tail] [.node 2 n.text [d.lead,n.lead,l.lead,r.lead,c.lead,e.lead] [.node 5 ⟨#[]⟩ [ty.lead] [],.node 21 ax.text [ax.lead] [.node 10 aj.text [aj.lead] [],.node 10 ak.text [ak.lead] []]]]):=by
 have aZ:=aa bC;have ba:=aa hsc;have bR:=aa bB;clear bC hsc bB;go_in;go_wp2_with fail;refine(D1 h _ (aZ.out.alloc _) s hs bR.out).mono ?_;rintro e' w1 ⟨v,rfl,h1,aO,aS,av,aV,ev,aX⟩;rw[ba.out]at aS ev aX;rw[ba.out];subst ev;have bq:Hid (Has w1 w.heap.size #[af ae 0,ah ⟨#[]⟩,ag none 0 0,ag none 0 0]):=(Has.new _ _ _).below aO.below;have a2:=aa (((St.refl aZ.out).alloc (au #[af ae 0,ah ⟨#[]⟩,ag none 0 0,ag none 0 0] 26)).call aO);have bX:Hid (h1 w.heap.size=none):=(aO.aI _ (by simp)).trans (bI aZ.out _ (kI _));have bS:=aa aS;obtain⟨aT,ot,rfl,cM,bE⟩:=aS.cells aO.I (by simp);have dn:w1.cell? ⟨aT,ot+1,none⟩=some (ah J.lead):=bE 1 _ rfl;clear aO aS bE;simp only[bF,cL]at aX;have ch:12<=aV:=aX;clear aX;go_wp2_with fail
 have bZ:Hid (bJ h1 (w1.alloc (au #[ag (some ⟨aT,ot,none⟩) 12 aV,af ae (J.lead.size:Int),af ae (s.size:Int),af ae 0,af ae 0] 93)) w1.heap.size [J,G,d,n,l,r,c,ty,e,aj,ax,ak]):=
  ⟨bI a2.out.I _ (kI _),_,_,_,_,_,Has.new _ _ _,ch,bS.out⟩
 have bv:=aa (bq.out.alloc (au #[ag (some ⟨aT,ot,none⟩) 12 aV,af ae (J.lead.size:Int),af ae (s.size:Int),af ae 0,af ae 0] 93));have bg:=aa (a2.out.alloc (au #[ag (some ⟨aT,ot,none⟩) 12 aV,af ae (J.lead.size:Int),af ae (s.size:Int),af ae 0,af ae 0] 93));have aJ:Hid (w.heap.size<w1.heap.size):=bq.out.lt;refine(Ia h1 _ bg.out.I w1.heap.size J G d n l r c ty e aj ax ak bZ.out cj cl hd hn ci hr hc cm he k1 cu cq k3 cv).mono ?_;rintro e' w3 ⟨v,rfl,am,b2,ab,Y,cells,rfl,aY,bL,bN,bH,bA,cX,bO,bz⟩;have aB:=aa (bv.out.gW aY (Nat.ne_of_lt aJ.out));have O:Hid (am w.heap.size=none):=(aY.aI _ bv.out.lt).trans bX.out;obtain⟨ap,cp,cV,cY,cw,a8,-⟩:=bL.row;have ct:=a8.cl 3;have dp:=a8.lt;obtain⟨dh,di,dk,dm⟩:=aB.out.jU;have cz:=aB.out.fz 0;have cA:=aB.out.fz 1;have cB:=aB.out.fz 2;have cC:=aB.out.fz 3;have dt:=aB.out.lt;have cN:w.heap.size≠w1.heap.size:=Nat.ne_of_lt aJ.out;have cQ:w1.heap.size≠w.heap.size:=Nat.ne_of_gt aJ.out;simp only[bw,bc,bQ]at ct;have aL:=aa aY;have bY:=aa bN;have a1:=aa bH;have bp:=aa bO;have a9:=aa bz;clear aY bL bN bH bO bz a8;go_wp2_with fail;have nx:w.heap.size≠b2:=by have:=aJ.out;simp at bA;omega
 have bd:=aa (bY.out.o4 nx (af ae 1) (ah G.text) (ag (some ⟨b2,0,none⟩) 3 3) (ag (some ⟨ab,0,none⟩) 1 Y));have ce:=aa (aB.out.mW (af ae 1) (ah G.text) (ag (some ⟨b2,0,none⟩) 3 3) (ag (some ⟨ab,0,none⟩) 1 Y));have cn:=aL.out.I
 have bV:Hid (ao am ((((w3.setCell ⟨w.heap.size,0,none⟩ (af ae 1)).setCell ⟨w.heap.size,1,none⟩ (ah G.text)).setCell ⟨w.heap.size,2,none⟩ (ag (some ⟨b2,0,none⟩) 3 3)).setCell ⟨w.heap.size,3,none⟩ (ag (some ⟨ab,0,none⟩) 1 Y))):=fun b c hc=>by
  have e:b≠w.heap.size:=fun e=>by rw[e,O.out]at hc;cases hc
  exact(oO (by rw[cH _ _ _ _ e,cH _ _ _ _ e,cH _ _ _ _ e,cH _ _ _ _ e])).trans (cn b c hc)
 have aM:=bg.out.grown aL.out.gr (fun k e=>by have e':w1.heap.size=k:=aU e;subst e';exact⟨Nat.le_of_lt aJ.out,bI a2.out.I _ (kI _)⟩)
 have bm:St w.heap.size h w am w3:=⟨aM.below,aL.out.I,Hp.le_trans aM.le aL.out.le,fun b a3=>(aL.out.aI b (by have:=aJ.out;simp;omega)).trans (aM.aI b a3),aM.base⟩
 have b9:=aa ((((bm.setCell (p:=⟨w.heap.size,0,none⟩) (kI _) O.out (af ae 1)).setCell (p:=⟨w.heap.size,1,none⟩) (kI _) O.out (ah G.text)).setCell (p:=⟨w.heap.size,2,none⟩) (kI _) O.out (ag (some ⟨b2,0,none⟩) 3 3)).setCell (p:=⟨w.heap.size,3,none⟩) (kI _) O.out (ag (some ⟨ab,0,none⟩) 1 Y));clear aM bm;have cg:w.heap.size<=b2:=by have:=aJ.out;simp at bA;omega
 have bG:am.le (am.add b2 #[ah J.lead,ah G.lead,ah ⟨#[]⟩]):=Hp.eG _ a1.out;have cd:=AP (name:=G.text) (AO am b2 #[ah J.lead,ah G.lead,ah ⟨#[]⟩]) (bp.out.mono bG) (a9.out.mono fun _ _ r=>r.mono bG);have bT:=aa (bV.out.add (bd.out.qj (by simp)));generalize(((w3.setCell ⟨w.heap.size,0,none⟩ (af ae 1)).setCell ⟨w.heap.size,1,none⟩ (ah G.text)).setCell ⟨w.heap.size,2,none⟩ (ag (some ⟨b2,0,none⟩) 3 3)).setCell ⟨w.heap.size,3,none⟩ (ag (some ⟨ab,0,none⟩) 1 Y)=c9 at*;refine(DI _ _ _ bT.out _ _ cd (kI _) (by simp[Tree.depth,hC])).mono ?_;rintro e' dg ⟨rfl,a4⟩;rw[show(Tree.node 1 G.text [J.lead,G.lead,⟨#[]⟩] [.node 2 n.text [d.lead,n.lead,l.lead,r.lead,c.lead,e.lead] [.node 5 ⟨#[]⟩ [ty.lead] [],.node 21 ax.text [ax.lead] [.node 10 aj.text [aj.lead] [],.node 10 ak.text [ak.lead] []]]]).depth=4 by simp[Tree.depth,hC]];have cc:=aa (b9.out.same a4);have aQ:=aa (bd.out.below a4);have aG:=aa (ce.out.below a4);obtain⟨v0,cZ,c6,c8⟩:=aG.out.jU;have cD:=aG.out.fz 0;have cE:=aG.out.fz 1;have cF:=aG.out.fz 2;have cG:=aG.out.fz 3;have co:=aQ.out.cl 2;have cK:=aQ.out.fz 2;have du:=aG.out.lt;have dr:=aQ.out.lt;have cS:=nx.symm;simp only[bw,bc,bQ]at co;go_wp2_with fail;have aN:=((((cc.out.setCell (p:=⟨b2,2,none⟩) cg a1.out (ah tail)).setCell (p:=⟨w.heap.size,0,none⟩) (kI _) O.out (af ae 1)).setCell (p:=⟨w.heap.size,1,none⟩) (kI _) O.out (ah G.text)).setCell (p:=⟨w.heap.size,2,none⟩) (kI _) O.out (ag (some ⟨b2,0,none⟩) 3 3)).setCell (p:=⟨w.heap.size,3,none⟩) (kI _) O.out (ag (some ⟨ab,0,none⟩) 1 Y);have b0:Has _ b2 #[ah J.lead,ah G.lead,ah tail]:=(aQ.out.hU 2 (by simp) (ah tail)).o4 nx (af ae 1) (ah G.text) (ag (some ⟨b2,0,none⟩) 3 3) (ag (some ⟨ab,0,none⟩) 1 Y);obtain⟨cf,c1,c2,c3⟩:=((aG.out.ne (fun e=>nx e.symm) 2 (ah tail)).mW (af ae 1) (ah G.text) (ag (some ⟨b2,0,none⟩) 3 3) (ag (some ⟨ab,0,none⟩) 1 Y)).jU;have a5:am.le (am.add b2 #[ah J.lead,ah G.lead,ah tail]):=Hp.eG _ a1.out;refine aF (v:=bD #[aq #[af ae 1,ah G.text,ag (some ⟨b2,0,none⟩) 3 3,ag (some ⟨ab,0,none⟩) 1 Y],af ae 0,af ae 0]) (by simp[results,Tryz.results21,go_sem,cf,c1,c2,c3]) rfl ⟨_,rfl,_,⟨aN.below,aN.I.add (b0.qj (by simp)),Hp.le_trans aN.le a5,fun b a3=> ?_,aN.base⟩,AP (AO _ _ _) (bp.out.mono a5) (a9.out.mono fun _ _ r=>r.mono a5)⟩;unfold Hp.add;rw[if_neg (by omega)];exact aN.aI b a3
def ql:ByteArray:=⟨#[109,111,100,117,108,101,32,77,32,100,101,102,32,102,40,41,58,32,73,110,116,32,61,32,49,32,43,32,50]⟩
theorem Ib:oT ql=([⟨7,⟨#[]⟩,⟨#[109,111,100,117,108,101]⟩⟩,⟨2,⟨#[32]⟩,⟨#[77]⟩⟩,⟨7,⟨#[32]⟩,⟨#[100,101,102]⟩⟩,⟨1,⟨#[32]⟩,⟨#[102]⟩⟩,⟨8,⟨#[]⟩,⟨#[40]⟩⟩,⟨8,⟨#[]⟩,⟨#[41]⟩⟩,⟨8,⟨#[]⟩,⟨#[58]⟩⟩,⟨7,⟨#[32]⟩,⟨#[73,110,116]⟩⟩,⟨8,⟨#[32]⟩,⟨#[61]⟩⟩,⟨5,⟨#[32]⟩,⟨#[49]⟩⟩,⟨8,⟨#[32]⟩,⟨#[43]⟩⟩,⟨5,⟨#[32]⟩,⟨#[50]⟩⟩],⟨#[]⟩,0,0):=by kernel_rfl
theorem Ic:∀i,i<ql.size->bt ql i≠35:=by decide+kernel
def qm:ByteArray:=⟨#[109,111,100,117,108,101,32,78,32,100,101,102,32,103,40,41,58,32,73,110,116,32,61,32,49,32,43,32,50]⟩
theorem Ie:oT qm=([⟨7,⟨#[]⟩,⟨#[109,111,100,117,108,101]⟩⟩,⟨2,⟨#[32]⟩,⟨#[78]⟩⟩,⟨7,⟨#[32]⟩,⟨#[100,101,102]⟩⟩,⟨1,⟨#[32]⟩,⟨#[103]⟩⟩,⟨8,⟨#[]⟩,⟨#[40]⟩⟩,⟨8,⟨#[]⟩,⟨#[41]⟩⟩,⟨8,⟨#[]⟩,⟨#[58]⟩⟩,⟨7,⟨#[32]⟩,⟨#[73,110,116]⟩⟩,⟨8,⟨#[32]⟩,⟨#[61]⟩⟩,⟨5,⟨#[32]⟩,⟨#[49]⟩⟩,⟨8,⟨#[32]⟩,⟨#[43]⟩⟩,⟨5,⟨#[32]⟩,⟨#[50]⟩⟩],⟨#[]⟩,0,0):=by kernel_rfl
theorem Ig:∀i,i<qm.size->bt qm i≠35:=by decide+kernel
def Lc:ByteArray:=⟨#[109,111,100,117,108,101,32,77,32,100,101,102,32,103,40,41,58,32,73,110,116,32,61,32,49,32,43,32,50]⟩
theorem Ih:oT Lc=([⟨7,⟨#[]⟩,⟨#[109,111,100,117,108,101]⟩⟩,⟨2,⟨#[32]⟩,⟨#[77]⟩⟩,⟨7,⟨#[32]⟩,⟨#[100,101,102]⟩⟩,⟨1,⟨#[32]⟩,⟨#[103]⟩⟩,⟨8,⟨#[]⟩,⟨#[40]⟩⟩,⟨8,⟨#[]⟩,⟨#[41]⟩⟩,⟨8,⟨#[]⟩,⟨#[58]⟩⟩,⟨7,⟨#[32]⟩,⟨#[73,110,116]⟩⟩,⟨8,⟨#[32]⟩,⟨#[61]⟩⟩,⟨5,⟨#[32]⟩,⟨#[49]⟩⟩,⟨8,⟨#[32]⟩,⟨#[43]⟩⟩,⟨5,⟨#[32]⟩,⟨#[50]⟩⟩],⟨#[]⟩,0,0):=by kernel_rfl
theorem Ii:∀i,i<Lc.size->bt Lc i≠35:=by decide+kernel
theorem Lv:lm ⟨#[49]⟩:=⟨by rw[eT];decide,by rw[eT];decide,by rw[eT];decide,by rw[eT];decide,by rw[eT];decide,by rw[eT];decide,by rw[eT];decide⟩
theorem Lw:lm ⟨#[50]⟩:=⟨by rw[eT];decide,by rw[eT];decide,by rw[eT];decide,by rw[eT];decide,by rw[eT];decide,by rw[eT];decide,by rw[eT];decide⟩
def b0(m f:ByteArray):Tree:=
 .node 1 m [⟨#[]⟩,⟨#[32]⟩,⟨#[]⟩] [.node 2 f [⟨#[32]⟩,⟨#[32]⟩,⟨#[]⟩,⟨#[]⟩,⟨#[]⟩,⟨#[32]⟩] [.node 5 ⟨#[]⟩ [⟨#[32]⟩] [],.node 21 ⟨#[43]⟩ [⟨#[32]⟩] [.node 10 ⟨#[49]⟩ [⟨#[32]⟩] [],.node 10 ⟨#[50]⟩ [⟨#[32]⟩] []]]]
theorem Ij(h:Hp)(w:World)(G:ao h w):Calls ai 21 #[ah ql] w fun e' w'=>∃v,e'= .returned (bD #[v,af ae 0,af ae 0])/\∃h',St w.heap.size h w h' w'/\aP h' v (b0 ⟨#[77]⟩ ⟨#[102]⟩):=
 u9 h w G ql (by decide+kernel) Ic _ _ _ _ _ _ _ _ _ _ _ _ _ Ib rfl rfl rfl rfl rfl rfl rfl rfl rfl rfl Lv (by decide+kernel) rfl Lw
theorem Ik(h:Hp)(w:World)(G:ao h w):Calls ai 21 #[ah qm] w fun e' w'=>∃v,e'= .returned (bD #[v,af ae 0,af ae 0])/\∃h',St w.heap.size h w h' w'/\aP h' v (b0 ⟨#[78]⟩ ⟨#[103]⟩):=
 u9 h w G qm (by decide+kernel) Ig _ _ _ _ _ _ _ _ _ _ _ _ _ Ie rfl rfl rfl rfl rfl rfl rfl rfl rfl rfl Lv (by decide+kernel) rfl Lw
theorem Il(h:Hp)(w:World)(G:ao h w):Calls ai 21 #[ah Lc] w fun e' w'=>∃v,e'= .returned (bD #[v,af ae 0,af ae 0])/\∃h',St w.heap.size h w h' w'/\aP h' v (b0 ⟨#[77]⟩ ⟨#[103]⟩):=
 u9 h w G Lc (by decide+kernel) Ii _ _ _ _ _ _ _ _ _ _ _ _ _ Ih rfl rfl rfl rfl rfl rfl rfl rfl rfl rfl Lv (by decide+kernel) rfl Lw
section
variable {ck:Int->ByteArray->List Nat->ByteArray}
theorem AQ{s:bp}{O nd:List cF}(hr:∀kn,∀x∈(dk ck nd kn).1,fX s.nt x=false):lc ck O nd s=s:=by
 unfold lc;simp only
 have key:∀(l:List bq) (g:List (Int×List bq)),(∀x∈l,fX s.nt x=false)->l.foldl e3 (g,s)=(g,s):=by
  intro l;induction l with
  |nil=>intro g _;rfl
  |cons x l J=>
   intro g G;have hx:=G x eu;rw[dK];have:e3 (g,s) x=(g,s):=by unfold e3;rw[if_pos (.inr (.inr hx))]
   rw[this];exact J g fun y hy=>G y (cW _ hy)
 rw[key _ _ (hr _)]
theorem AR{z:Nat}{l:List Bool}{nt:List Tree}(hz:∀i,i<nt.length->(nt.getD i default).size=z)(ab:nt.length=1)(ak:l.length=z)(Y:∀i,i<z->1<=i->l.getD i false=true)(kn:List ByteArray)(x:bq)(hx:x∈(dk ck (aj 0 nt) kn).1):fX [l] x=false:=by
 obtain⟨h1,h2,J,O⟩:=rN nt kn x hx;have e:=hz _ h1;rw[e]at O;have G:x.module=0:=by omega
 unfold fX;rw[List.all_eq_false];refine⟨true,?_,by simp⟩;rw[G,List.getD_cons_zero,List.mem_iff_getElem];have:=Y x.number (by omega) J;rw[List.getD_eq_getElem?_getD,aE (by omega)]at this;refine⟨0,by rw[mb,List.length_drop];omega,?_⟩;simpa using this
def dG(f:ByteArray):Tree:= .node 2 f [⟨#[32]⟩,⟨#[32]⟩,⟨#[]⟩,⟨#[]⟩,⟨#[]⟩,⟨#[32]⟩] [.node 5 ⟨#[]⟩ [⟨#[32]⟩] [],.node 21 ⟨#[43]⟩ [⟨#[32]⟩] [.node 10 ⟨#[49]⟩ [⟨#[32]⟩] [],.node 10 ⟨#[50]⟩ [⟨#[32]⟩] []]]
theorem nh(m f:ByteArray):aj 0 [b0 m f]=[⟨0,1,dG f⟩]:=rfl
def AU:List (Int×Int):=[(0,0),(1,1),(2,2),(3,3),(4,4)]
theorem Lx:(bE (aO (dG ⟨#[102]⟩)) (aO (dG ⟨#[103]⟩)) 100).aR=AU/\(bE (aO (dG ⟨#[102]⟩)) (aO (dG ⟨#[103]⟩)) 100).cost=1:=by
 have e:=H4 (kr (dG ⟨#[102]⟩)) (kr (dG ⟨#[103]⟩)) (by decide+kernel) (by decide+kernel) 100 (by decide+kernel) (by decide+kernel) (by decide+kernel) (by decide+kernel) (fun i G=>by
  obtain⟨j,rfl⟩:∃j,i=j+1:=⟨i-1,by omega⟩
  unfold nd aO dG;rw[ej,ej];simp only[Int.toNat_natCast,List.getD_cons_succ])
 refine⟨e.1.trans (by decide+kernel),e.2⟩
theorem Im:hI 100 (dG ⟨#[102]⟩) (dG ⟨#[103]⟩)=1:=by unfold hI;rw[Lx.2];decide+kernel
def jA(om nm:List Int)(oa na:List Int)(b:Bool)(p:Int×Int):bp:=⟨om,nm,oa,na,[[b,false,false,false,false,false]],[[b,false,false,false,false,false]],[[p,(-1,0),(-1,0),(-1,0),(-1,0),(-1,0)]],0,0⟩
theorem Io:l5 [b0 ⟨#[77]⟩ ⟨#[102]⟩] [b0 ⟨#[77]⟩ ⟨#[103]⟩] (cN [b0 ⟨#[77]⟩ ⟨#[102]⟩] [b0 ⟨#[77]⟩ ⟨#[103]⟩])=jA [0] [0] [-1] [-1] true (0,0):=by kernel_rfl
theorem Ip:l5 [b0 ⟨#[77]⟩ ⟨#[102]⟩] [b0 ⟨#[78]⟩ ⟨#[103]⟩] (cN [b0 ⟨#[77]⟩ ⟨#[102]⟩] [b0 ⟨#[78]⟩ ⟨#[103]⟩])=jA [-1] [-1] [-1] [-1] false (-1,0):=by kernel_rfl
theorem Iq(cost:Nat->Nat->Int)(drop add:Nat->Int)(hc:cost 0 0=1)(hd:drop 0=5)(ha:add 0=5):eX [-1] [-1] cost drop add=([0],[0]):=by have e:=H0 1 0 (by omega) cost drop add 5 hc hd ha (H6 5 (by omega) (by omega));exact e
theorem AV(m m':ByteArray)(om nm:List Int)(b:Bool)(p:Int×Int)(he:dh [-1] [-1] (la [⟨0,1,dG ⟨#[102]⟩⟩]) (km [⟨0,1,dG ⟨#[103]⟩⟩] nm)=([-1],[-1])):l4 100 [b0 m ⟨#[102]⟩] [b0 m' ⟨#[103]⟩] (jA om nm [-1] [-1] b p)=jA om nm [0] [0] b p:=by unfold l4;rw[nh,nh];simp only[jA];rw[he];rw[show dh [-1] [-1] (iw [⟨0,1,dG ⟨#[102]⟩⟩]) (iw [⟨0,1,dG ⟨#[103]⟩⟩])=([-1],[-1])from by decide+kernel];rw[Iq _ _ _ Im (by decide+kernel) (by decide+kernel)]
theorem AW(m m':ByteArray)(om nm:List Int)(b:Bool)(p:Int×Int):(kw 100 [b0 m ⟨#[102]⟩] [b0 m' ⟨#[103]⟩] (jA om nm [0] [0] b p)).rs=[[p,(0,1),(0,2),(0,3),(0,4),(0,5)]]/\(kw 100 [b0 m ⟨#[102]⟩] [b0 m' ⟨#[103]⟩] (jA om nm [0] [0] b p)).nt=[[b,true,true,true,true,true]]/\(kw 100 [b0 m ⟨#[102]⟩] [b0 m' ⟨#[103]⟩] (jA om nm [0] [0] b p)).cost=1:=by
 have e:ek 100 [⟨0,1,dG ⟨#[102]⟩⟩] [⟨0,1,dG ⟨#[103]⟩⟩] (jA om nm [0] [0] b p) 0=gX 0 1 0 1 AU {jA om nm [0] [0] b p with cost:=1,a7:=bS (0+(bE (aO (dG ⟨#[102]⟩)) (aO (dG ⟨#[103]⟩)) 100).a7)}:=by
  have hf:¬ge (jA om nm [0] [0] b p).oa ((0:Nat):Int)<0:=by show¬ge [0] ((0:Nat):Int)<0;decide
  unfold ek;simp only;rw[if_neg hf];show gX 0 1 0 1 (bE (aO (dG ⟨#[102]⟩)) (aO (dG ⟨#[103]⟩)) 100).aR ⟨om,nm,[0],[0],_,_,_,bS (0+(bE (aO (dG ⟨#[102]⟩)) (aO (dG ⟨#[103]⟩)) 100).cost),bS (0+(bE (aO (dG ⟨#[102]⟩)) (aO (dG ⟨#[103]⟩)) 100).a7)⟩=_;rw[Lx.1,Lx.2,show bS (0+1)=1 from zp (by omega) (by omega)];rfl
 have G:kw 100 [b0 m ⟨#[102]⟩] [b0 m' ⟨#[103]⟩] (jA om nm [0] [0] b p)=gF [⟨0,1,dG ⟨#[103]⟩⟩] (ek 100 [⟨0,1,dG ⟨#[102]⟩⟩] [⟨0,1,dG ⟨#[103]⟩⟩] (jA om nm [0] [0] b p) 0) 0:=by unfold kw;rw[nh,nh];rw[Bt,Bt,show aw 1=[0]from rfl,dK,fk,dK,fk]
 rw[G,e];generalize bS (0+(bE (aO (dG ⟨#[102]⟩)) (aO (dG ⟨#[103]⟩)) 100).a7)=z;refine⟨rfl,rfl,rfl⟩
theorem AX:(eD ck 100 [b0 ⟨#[77]⟩ ⟨#[102]⟩] [b0 ⟨#[77]⟩ ⟨#[103]⟩]).rs=[[(0,0),(0,1),(0,2),(0,3),(0,4),(0,5)]]/\(eD ck 100 [b0 ⟨#[77]⟩ ⟨#[102]⟩] [b0 ⟨#[77]⟩ ⟨#[103]⟩]).cost=1:=by
 have e:=AW ⟨#[77]⟩ ⟨#[77]⟩ [0] [0] true (0,0);unfold eD;rw[Io,AV _ _ _ _ _ _ (by decide+kernel)];rw[AQ fun kn x hx=>by rw[e.2.1];exact AR (z:=6) (by decide+kernel) rfl rfl (by decide+kernel) kn x hx]
 exact⟨e.1,e.2.2⟩
theorem Ir:(eD ck 100 [b0 ⟨#[77]⟩ ⟨#[102]⟩] [b0 ⟨#[78]⟩ ⟨#[103]⟩]).rs=[[(-1,0),(0,1),(0,2),(0,3),(0,4),(0,5)]]:=by
 have e:=AW ⟨#[77]⟩ ⟨#[78]⟩ [-1] [-1] false (-1,0);unfold eD;rw[Ip,AV _ _ _ _ _ _ (by decide+kernel)];rw[AQ fun kn x hx=>by rw[e.2.1];exact AR (z:=6) (by decide+kernel) rfl rfl (by decide+kernel) kn x hx]
 exact e.1
end
theorem IE(l:List Int):∀u∈l.map (af ae),u.oneCell'=true:=by intro u G;obtain⟨z,_,rfl⟩:=b6.1 G;rfl
def A4(h:Hp)(w:World)(L:List Int)(e:Ending)(w':World):Prop:=∃g,e= .returned (az (some ⟨g,0,none⟩))/\w.heap.size<=g/\∃h',St w.heap.size h w h' w'/\cA h' w' g L 0
theorem IF{h:Hp}{w w1:World}{L:List Int}{a:Option Addr}{c:Nat}(st:St w.heap.size h w h w1)(own:Ow w1 h w.heap.size 3 1 (ag a (0+L.length) c) (0+L.length) ([]++L.map (af ae)))(O:∀x∈L,aG x)(hn:L.length<=100000):A4 h w L (.returned (az (some ⟨w1.heap.size,0,none⟩))) (w1.alloc (.cells #[ag a L.length c,af ae 0] 149)):=by
 rw[Nat.zero_add,List.nil_append]at own;have am:=own.alloc (.cells #[ag a L.length c,af ae 0] 149);obtain⟨h',ab,aj,J,ak⟩:=am.giveUp (st.I.alloc _) (by omega);refine⟨w1.heap.size,rfl,st.size,h',⟨(st.alloc _).below,ab,Hp.le_trans st.le aj,fun b Y=> ?_,st.base⟩,?_,by simp,Nat.zero_le _,⟨a,c,?_,ak,O⟩,?_,?_⟩;·exact(J b (fun g G e=>by have:=(own.lt g G).1;omega)).trans (st.aI b Y)
 ·exact(J _ (fun g G e=>by have:=(own.lt g G).2;omega)).trans st.I.iI
 ·exact(cJ _ _ _ _ rfl).trans rfl
 ·exact(cJ _ _ _ _ rfl).trans rfl
 ·exact World.frozen?_alloc_at _ _ _ _ rfl
theorem IG(h:Hp)(w:World)(ab:ao h w)(vl:Value)(L:List Int)(G:Ints h vl L)(hn:L.length<=100000):Calls ai 39 #[vl] w (A4 h w L):=by have O:=aa ab;have Y:=aa G;have ak:=aa (IE L);obtain⟨a,aB,rfl,aL,-⟩:=G.open;clear ab G;go_in;go_wp2_with(at_builtin;refine s9 fP rfl (.tmp 3) (.tmp 4) rfl ((St.refl O.out).alloc _) (ag (some ⟨w.heap.size,0,none⟩) 0 0) 0 [] rfl (oP O.out (kI _) [] 0 1 3 (by simp[maxLen]) rfl) (ag a L.length aB) L.length (L.map (af ae)) rfl Y.out.1 ak.out (by omega) ?_;intro aM w1 aj J aG ax;obtain⟨aJ,c1,rfl⟩:=J.shape;have am:=aa (IF aj J Y.out.2 hn);clear aj J aG ax);go_ret;exact am.out
theorem St.dst{B:Nat}{G h h':Hp}{w0 w w':World}{g:Nat}{L:List Int}(s:St B G w0 h w)(t:aL g L h w h' w')(Y:B<=g):St B G w0 h' w':=
 ⟨s.below.trans ⟨t.gr.os,t.gr.tape,t.gr.output,t.gr.size,fun k O=>t.gr.block k (bK O s.size) (fun e=>by have:=aU e;omega)⟩,t.I,Hp.le_trans s.le t.le,fun b J=>(t.aI b (bK J s.size)).trans (s.aI b J),s.base⟩
theorem Sl.take{h:Hp}{a:Option Addr}{n c k:Nat}{cs:List Value}(s:Sl h (ag a n c) n k cs)(j:Nat)(hj:j<=n):Sl h (ag a j c) j k (cs.take (j*k)):=by
 obtain⟨a',ab,e,h1,h2,J⟩:=s;simp only[bU,true_and]at e;obtain⟨rfl,rfl⟩:=e;have hm:j*k<=n*k:=mq _ hj;refine⟨a,c,rfl,by omega,by rw[mb];omega,?_⟩;rcases et j with G|G;·exact .inl G
 ·rcases J with J|⟨b,off,c',rfl,O,hc⟩;·omega
  ·exact .inr ⟨b,off,c',rfl,O,fun i Y=>by rw[List.getElem?_take,if_pos Y];exact hc i (by omega)⟩
theorem St.aM{B:Nat}{J h:Hp}{w0 w:World}(s:St B J w0 h w){b:Nat}(G:B<=b)(hn:h b=none)(v0 O Y ab:Value):St B J w0 h ((((w.setCell ⟨b,0,none⟩ v0).setCell ⟨b,1,none⟩ O).setCell ⟨b,2,none⟩ Y).setCell ⟨b,3,none⟩ ab):=
 (((s.setCell (p:=⟨b,0,none⟩) G hn v0).setCell (p:=⟨b,1,none⟩) G hn O).setCell (p:=⟨b,2,none⟩) G hn Y).setCell (p:=⟨b,3,none⟩) G hn ab
mutual
theorem Am:∀{t:Tree},t.ia->t.texts
 | .node k s l G,h=>by rw[Tree.ia]at h;rw[Tree.texts];exact⟨by omega,An h.2⟩
theorem An:∀{ts:List Tree},ib ts->lq ts
 |[],_=>by rw[lq];trivial
 |t::ts,h=>by rw[ib]at h;rw[lq];exact⟨Am h.1,An h.2⟩
end
mutual
theorem Ao:∀{t:Tree},t.ia->t.short
 | .node k s l G,h=>by rw[Tree.ia]at h;rw[Tree.short];exact⟨by omega,Ap h.2⟩
theorem Ap:∀{ts:List Tree},ib ts->kJ ts
 |[],_=>by rw[kJ];trivial
 |t::ts,h=>by rw[ib]at h;rw[kJ];exact⟨Ao h.1,Ap h.2⟩
end
theorem r8(ts:List Tree):(aN ts).length=ts.length:=by rw[iY,dL]
mutual
theorem Aq:∀(t:Tree),t.bare.ia↔t.ia
 | .node k s l G=>by rw[Tree.bare,Tree.ia,Tree.ia,Ar G]
theorem Ar:∀(ts:List Tree),ib (aN ts)↔ib ts
 |[]=>by rw[aN]
 |t::ts=>by rw[aN,ib,ib,Aq t,Ar ts]
end
mutual
theorem LD:∀(t:Tree),ep t.bare=ep t
 | .node k s l G=>by rw[Tree.bare,ep,ep,r8,Au k G.length 0 G]
theorem Au(k:Int)(n:Nat):∀(i:Nat) (ts:List Tree),fZ k n i (aN ts)=fZ k n i ts
 |_,[]=>by rw[aN]
 |i,t::ts=>by rw[aN,fZ,fZ,o8,LD t,Au k n (i+1) ts]
end
theorem Av(t:Tree):dw t.bare↔dw t:=by unfold dw;rw[LD,Aq]
theorem Aw(t:Tree):MD t.bare↔MD t:=by unfold MD;rw[Av,l3,o8,o9]
def MM(t:Tree):Prop:=t.kind=1/\t.text.size=1/\t.kids.length<=3/\(∀d∈t.kids,MD d)/\dw t
theorem u4(t:Tree):MM t.bare↔MM t:=by
 unfold MM;rw[Av,o8,o9,rT,r8];have:(∀d∈aN t.kids,MD d)↔∀d∈t.kids,MD d:=by rw[iY];refine⟨fun h d hd=>(Aw d).1 (h _ (b6.2 ⟨d,hd,rfl⟩)),fun h d hd=> ?_⟩;obtain⟨e,he,rfl⟩:=b6.1 hd;exact(Aw e).2 (h e he)
 rw[this]
theorem MM.same{t u:Tree}(h:MM t)(e:u.bare=t.bare):MM u:=(u4 u).1 (by rw[e];exact(u4 t).2 h)
theorem MM.named{k:Int}{s s':ByteArray}{l l':List ByteArray}{G:List Tree}(h:MM (.node k s l G))(hs:fu 1 s'=true)(h1:s'.size=1):MM (.node k s' l' G):=by obtain⟨a,b,c,d,e,f⟩:=h;obtain⟨g1,g2⟩:=Af hs;rw[Tree.ia]at f;rw[ep,cy,cy]at e;have a':k=1:=a;subst a';exact⟨rfl,h1,c,d,by rw[ep,e.1,g1,e.2.2];rfl,by rw[Tree.ia];exact⟨g2,f.2⟩⟩
theorem HN{s:ByteArray}{ts:List Tree}(hs:fu 1 s=true)(h1:s.size=1)(J:ts.length<=3)(h:∀d∈ts,MD d):MM (.node 1 s [] ts):=by
 refine⟨rfl,h1,J,h,je (decide_eq_true ?_) hs (GW.all fun t G=>⟨fun i _=> ?_,(h t G).2.1⟩)⟩;·show(0:Int)<=3;omega
 ·show(decide (t.kind=2)||decide (t.kind=3))=true;rcases(h t G).1.2 with e|e;·rw[e];rfl
  ·rw[e];rfl
def MP(ts:List Tree):Prop:=ts.length<=3/\∀t∈ts,MM t
def MN(t:Tree):Prop:=t.kind=1/\t.kids.length<=3/\(∀d∈t.kids,(d.size<=120/\(d.kind=2\/d.kind=3))/\dw d)/\dw t
def MQ(ts:List Tree):Prop:=ts.length<=3/\∀t∈ts,MN t
theorem MM.mn{t:Tree}(h:MM t):MN t:=⟨h.1,h.2.2.1,fun d hd=>⟨(h.2.2.2.1 d hd).1,(h.2.2.2.1 d hd).2.1⟩,h.2.2.2.2⟩
theorem MP.mq{ts:List Tree}(h:MP ts):MQ ts:=⟨h.1,fun t G=>(h.2 t G).mn⟩
section
variable {ts:List Tree}
theorem MQ.prog(h:MQ ts):jc ts=true:=by unfold jc;rw[List.all_eq_true];intro t G;have:=h.2 t G;rw[this.1,this.2.2.2.1];rfl
theorem MQ.texts(h:MQ ts):∀t∈ts,t.texts:=fun t G=>Am (h.2 t G).2.2.2.2
theorem Ax(b:Nat):∀(G:List Tree),(∀d∈G,d.size<=b)->ax G<=G.length*b
 |[],_=>by rw[ax];omega
 |k::G,h=>by have J:=h k eu;have h1:=Ax b G fun d hd=>h d (cW _ hd);rw[gR,bF,gN];omega
theorem MN.size{t:Tree}(h:MN t):t.size<=361:=by have h1:=Ax 120 t.kids fun d hd=>(h.2.2.1 d hd).1.1;have h2:=h.2.1;have:t.kids.length*120<=3*120:=mq _ h2;rw[Tree.size_eq];omega
theorem MM.size{t:Tree}(h:MM t):t.size<=361:=h.mn.size
theorem MQ.at(h:MQ ts){i:Nat}(G:i<ts.length):MN (ts.getD i default):=by rw[getD_at G];exact h.2 _ (aK G)
theorem MQ.def(h:MQ ts){d:cF}(hd:d∈aj 0 ts):(d.t.size<=120/\(d.t.kind=2\/d.t.kind=3))/\dw d.t:=by obtain⟨-,h2,-,-,G⟩:=mT ts 0 d hd;rw[qv]at G;exact(h.at (by omega)).2.2.1 _ G
theorem MP.at(h:MP ts){i:Nat}(G:i<ts.length):MM (ts.getD i default):=by rw[getD_at G];exact h.2 _ (aK G)
theorem MP.def(h:MP ts){d:cF}(hd:d∈aj 0 ts):MD d.t:=by obtain⟨-,h2,-,-,G⟩:=mT ts 0 d hd;rw[qv]at G;exact(h.at (by omega)).2.2.2.1 _ G
theorem Ay:∀(ts:List Tree) (m:Nat),(∀t∈ts,t.kids.length<=3)->(aj m ts).length<=ts.length*3
 |[],m,_=>by rw[aj];simp
 |t::ts,m,h=>by have J:=h t eu;have h1:=Ay ts (m+1) fun u G=>h u (cW _ G);rw[aj,List.length_append,rZ,bF,gN];omega
theorem MQ.dS(h:MQ ts):(aj 0 ts).length<=9:=by have:=Ay ts 0 fun t G=>(h.2 t G).2.1;have:ts.length*3<=3*3:=mq _ h.1;omega
theorem HO{K α:Type}[DecidableEq K](l:List (K×α))(p:K)(v:α):(aY l p v).length<=l.length+1:=by
 unfold aY;split;·rw[List.length_set];omega
 ·simp
theorem HP(G:List Tree):(bX G).length<=G.length:=by
 unfold bX
 have key:∀(G:List Tree) (l:List (lU×Value)),(G.foldl (fun l (d:Tree)=>aY l (d.kind,d.text) (.bool true)) l).length<=l.length+G.length:=by
  intro G;induction G with
  |nil=>intro l;simp
  |cons k G J=>intro l;rw[dK,bF];have:=J (aY l (k.kind,k.text) (.bool true));have:=HO l (k.kind,k.text) (.bool true);omega
 have:=key G [];simpa using this
theorem MQ.jw(h:MQ ts):e7 ts:=by
 refine⟨by have:=h.1;omega,fun t G=> ?_,by have:=h.dS;omega,fun d hd=> ?_,fun d hd=> ?_,fun d hd=> ?_,fun t G=> ?_⟩;·have:=HP t.kids;have:=(h.2 t G).2.1;omega
 ·have:=(h.def hd).1.1;omega
 ·have:=mT ts 0 d hd;omega
 ·have:=mT ts 0 d hd;rw[qv]at this;exact this.2.2.2.1
 ·have:=(h.2 t G).size;omega
theorem Az(b:Nat):∀(ds:List cF),(∀d∈ds,d.t.size<=b)->iX ds<=ds.length*b
 |[],_=>by simp[iX]
 |d::ds,h=>by
  have G:=h d eu;have h1:=Az b ds fun e he=>h e (cW _ he);have:iX (d::ds)=d.t.size+iX ds:=by simp[iX]
  rw[this,bF,gN];omega
theorem MQ.oe(h:MQ ts):pa ts:=by
 refine⟨fun d hd=>Ao (h.def hd).2.2,?_,fun d hd=> ?_⟩;·have:=Az 120 (aj 0 ts) fun d hd=>(h.def hd).1.1;have:(aj 0 ts).length*120<=9*120:=mq _ h.dS;omega
 ·have h1:=mT ts 0 d hd;rw[qv]at h1;have:=(h.at (i:=d.module) (by omega)).size;omega
theorem MP.prog(h:MP ts):jc ts=true:=h.mq.prog
theorem MP.texts(h:MP ts):∀t∈ts,t.texts:=h.mq.texts
theorem MP.dS(h:MP ts):(aj 0 ts).length<=9:=h.mq.dS
theorem MP.jw(h:MP ts):e7 ts:=h.mq.jw
theorem MP.oe(h:MP ts):pa ts:=h.mq.oe
end
theorem Bd(t:Tree)(hz:t.size<=100000)(aZ:VT t)(h:Hp)(w:World)(aY:ao h w)(v:Value)(aQ:aP h v t):Calls ai 42 #[v] w fun e w'=>se t e/\Below w.heap.size w w':=by
 have Y:=aa aY;have ab:=aa aQ;have aL:=aa aZ;obtain⟨al,aO,aM,ck,ys,rfl,-,bd,ba,a4,a5,he⟩:=aQ.open;clear aY aQ aZ a4 a5 he;have aS:Hid (Has (w.alloc (.cells #[af ae t.kind,ah t.text,ag al t.leads.length aO,ag aM t.kids.length ck] 26)) w.heap.size #[af ae t.kind,ah t.text,ag al t.leads.length aO,ag aM t.kids.length ck]):=Has.new _ _ _;have B0:Hid (Below w.heap.size w (w.alloc (.cells #[af ae t.kind,ah t.text,ag al t.leads.length aO,ag aM t.kids.length ck] 26))):=(Below.refl _ _).alloc (kI _) _;go_in;go_wp2_with fail;refine(Ba t aL.out.pr aL.out.lb h _ (Y.out.alloc _) _ ab.out).mono ?_;rintro e w2 ⟨⟨b,rfl,aX⟩,b2⟩;have a2:=aa aX;have G:=aa (B0.out.trans (b2.mono B0.out.size));have aj:=aa (aS.out.below b2);obtain⟨⟨ax,aB,aG,aJ⟩,-⟩:=aj.out.four;have am:=aj.out.lt;clear b2 aS B0 aX;cases b;·go_wp2_with fail;go_ret;exact⟨ng _,G.out⟩
 ·go_wp2_with fail;refine(Jb _ t (kI _) h _ (Y.out.below G.out) _ ab.out).mono ?_;rintro e w3 ⟨⟨b,rfl⟩,b3⟩;have J:=aa (G.out.trans (b3.mono G.out.size));have ak:=aa (aj.out.below b3);clear b3 ax aB aG aJ am aj G;obtain⟨⟨ax,aB,aG,aJ⟩,-⟩:=ak.out.four;have am:=ak.out.lt;cases b;·go_wp2_with fail;go_ret;exact⟨ng _,J.out⟩
  ·go_wp2_with fail;refine(Je t.size (by omega) t (kI _) h _ (Y.out.below J.out) _ ab.out).mono ?_;rintro e bg ⟨⟨d,rfl,hd⟩,aN⟩;have O:=aa (J.out.trans (aN.mono J.out.size));have aT:=aa (ak.out.below aN);clear aN ax aB aG aJ am ak J;obtain⟨⟨ax,aB,aG,aJ⟩,-⟩:=aT.out.four;have am:=aT.out.lt;by_cases a9:d<=40
   ·have a3:(d:Int)<=40:=by omega
    go_wp2_with fail;refine(Jg t hz aL.out h _ (Y.out.below O.out) _ ab.out).mono ?_;rintro e bm ⟨⟨s,rfl⟩,aV⟩;have a1:=aa (O.out.trans (aV.mono O.out.size));clear aV;go_wp2_with fail;go_ret;exact⟨⟨_,rfl,fun _=>a2.out (by trivial)⟩,a1.out⟩
   ·have a3:decide ((d:Int)<=40)=false:=by simp;omega
    have a8:¬(d:Int)<=40:=by omega
    go_wp2_with fail;go_ret;exact⟨ng _,O.out⟩
end Go.Proofs.YtdplggpbgommnaaGreatDoor
