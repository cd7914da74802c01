/- pairing.classes.of. -/
import Derived.Test.YtdplggpbgommnaaGreatDoorG15
import Derived.Lib.ItoaLen
open Go.Lib renaming PrintTabs->fq,decDigits->pz,itoa->eQ,quoteFrom->Cd
open Go.Value renaming ownBlock->bW
open List renaming Nodup->ph,append_assoc->fI,cons_append->GP,findIdx?_eq_some_iff_getElem->oB,flatMap_cons->fH,foldl_cons->dK,foldl_nil->fk,getElem?_eq_getElem->aE,getElem?_eq_none->gM,getElem_mem->aK,length_append->cI,length_cons->bF,length_drop->pq,length_nil->cL,map_append->gO,map_cons->cR,mem_append->xm,mem_cons_of_mem->cW,mem_cons_self->eu,mem_cons->b8,mem_filter->lz,mem_map->b6,mem_range->ee,mem_singleton->eR,nil_append->ji,pairwise_cons->fJ,pairwise_iff_getElem->K3,pairwise_map->mo,prefix_rfl->Ce
open List.Pairwise renaming filter->vM,imp_of_mem->pj,imp->pk
open List.cons renaming inj->pA
open Nat renaming le_refl->kI,lt_or_ge->b7,mod_lt->Cc,strongRecOn->KT
open Option.some renaming injEq->aC,inj->aU
open UInt8 renaming toNat_ofNat'->sR
namespace Go.Proofs.YtdplggpbgommnaaGreatDoor
open Go.RowKit
section
variable {ck:Int->ByteArray->List Nat->ByteArray}
theorem s6(m:Nat):∀(ts:List Tree) (t:Tree) (n:Nat) (kn:List ByteArray),bz ck m (ts++[t]) n kn=(let a:=bz ck m ts n kn;let b:=cS ck m t (n+ax ts) a.2.2;(a.1++b.1,a.2.1++[b.2.1],b.2.2))
 |[],t,n,kn=>by simp[bz,ax]
 |u::ts,t,n,kn=>by rw[GP,bz,bz];simp only;rw[s6 m ts t];simp only[gR,Nat.add_assoc,fI,GP]
theorem Cu(m:Nat)(t:Tree)(n:Nat)(kn:List ByteArray):cS ck m t n kn=(let r:=bz ck m t.kids (n+1) kn;let q:=gw r.2.2 (ck t.kind t.text r.2.1);(⟨m,n,t.size,q.1⟩::r.1,q.1,q.2)):=by cases t;rw[cS];simp only[Tree.kids,Tree.kind,Tree.text,Tree.size]
end
theorem s5(l:List bq):(l.flatMap cX).length=l.length*4:=by
 induction l with
 |nil=>rfl
 |cons a l G=>simp only[fH,cI,G,cX,bF,cL];omega
theorem hP.tu{B b:Nat}{bs:List Value}{w w':World}{S:Nat->Prop}(h:hP B b bs w)(t:Tu S w w')(hS:∀k,S k->k≠b/\∀c G,w.heap[k]?≠some (.cells c 5 G)):hP B b bs w':=by
 have key:∀p,Lib.BuilderAtF 224 5 B b p bs w->Lib.BuilderAtF 224 5 B b p bs w':=fun p ⟨am,v,Y,aB,ax⟩=>by
  have aj:∀{k:Nat} {o:Obj},w.heap[k]? =some o->k<w.heap.size:=fun{k o} ab=>by
   rcases b7 k w.heap.size with q|q;·exact q
   ·rw[Array.getElem?_eq_none q]at ab;cases ab
  refine⟨am,v,(t.block b (aj Y) fun e=>(hS b e).1 rfl).trans Y,?_,ax⟩;rcases aB with⟨h1,h2|⟨g,ak,O,G,hv,ao,J,r⟩⟩;·exact⟨h1,.inl h2⟩
  ·exact⟨h1,.inr ⟨g,ak,O,G,hv,ao,(t.block g (aj J) fun e=>(hS g e).2 O G J).trans J,r⟩⟩
 rcases h with h|h;·exact .inl (key _ h)
 ·exact .inr (key _ h)
theorem jJ.tu{B b:Nat}{w w1 w2:World}{S:Nat->Prop}(h:jJ B b w1 w2)(t:Tu S w w1)(G:w.heap.size<=B):Tu S w w2:=
 t.step (S':=fun k=>B<=k) ⟨h.1.os,h.1.tape,h.1.output,h.1.size,fun k _ hn=>h.1.block k (by omega)⟩ fun k J=> .inr (by omega)
theorem jJ.ow{B b B':Nat}{w w':World}{h:Hp}{e:TypeId}{k n:Nat}{v:Value}{xs:List Value}(r:jJ B b w w')(o:Ow w h B' e k v n xs)(he:e≠5)(Y:v.ownBlock≠some b):Ow w' h B' e k v n xs:=by
 refine o.keep (fun g J=> ?_) fun _ _=>rfl;rcases o.row with⟨h1,⟨rfl,am⟩|⟨g',ab,aj,rfl,ao,O,aG,ax,aB,aJ⟩⟩;·simp[bW]at J
 ·simp only[bW,aC]at J;subst J;rw[O];exact r.2 g' _ O (fun G=>Y (by rw[<-G];rfl)) fun c ak G=>he (by injection G)
theorem jJ.map{K:Type}{enc:K->Value}{B b:Nat}{w w':World}{r:Nat}{l:List (K×Value)}(q:jJ B b w w')(m:aS enc w r l)(G:r≠b):aS enc w' r l:=
 m.keep (by rw[m];exact q.2 r _ m (fun e=>G (aU e)) fun c J e=>by unfold cG at e;cases e)
theorem hP.new(w:World):hP w.heap.size w.heap.size [] (w.alloc (.cells #[.pointer none,.slice none 0 0] 224)):=
 .inl ⟨kI _,.slice none 0 0,heap_alloc_new w _,⟨by simp,.inl ⟨rfl,rfl⟩⟩,by simp[bW]⟩
section
variable {ck:Int->ByteArray->List Nat->ByteArray}
theorem FP(kn:List ByteArray)(key:ByteArray):kn.length<=(gw kn key).2.length/\(gw kn key).2.length<=kn.length+1/\(gw kn key).1<(gw kn key).2.length:=by
 unfold gw;split;·rename_i i h;have:=(oB.1 h).1;exact⟨kI _,by simp,this⟩
 ·simp
mutual
theorem wB(m:Nat):∀(t:Tree) (n:Nat) (kn:List ByteArray),(cS ck m t n kn).1.length=t.size/\kn.length<=(cS ck m t n kn).2.2.length/\(cS ck m t n kn).2.2.length<=kn.length+t.size/\(cS ck m t n kn).2.1<(cS ck m t n kn).2.2.length
 | .node k s ls G,n,kn=>by have h:=pF m G (n+1) kn;rw[cS];have q:=FP (bz ck m G (n+1) kn).2.2 (ck k s (bz ck m G (n+1) kn).2.1);simp only[bF,Tree.size];exact⟨by rw[h.1],by omega,by omega,q.2.2⟩
theorem pF(m:Nat):∀(ts:List Tree) (n:Nat) (kn:List ByteArray),(bz ck m ts n kn).1.length=ax ts/\kn.length<=(bz ck m ts n kn).2.2.length/\(bz ck m ts n kn).2.2.length<=kn.length+ax ts/\(∀c∈(bz ck m ts n kn).2.1,c<kn.length+ax ts)/\(bz ck m ts n kn).2.1.length=ts.length
 |[],n,kn=>by simp[bz,ax]
 |t::ts,n,kn=>by
  have h1:=wB m t n kn;have h2:=pF m ts (n+t.size) (cS ck m t n kn).2.2;rw[bz];simp only[cI,bF,gR];refine⟨by omega,by omega,by omega,fun c hc=> ?_,by omega⟩;rcases b8.1 hc with rfl|hc;·omega
  ·have:=h2.2.2.2.1 c hc;omega
end
end
structure cz(h:Hp)(w:World)(B r:Nat)(lv:Value)(wr:World)(bC:Value)(L:List bq)(kn:List ByteArray):Prop where
 own:Ow wr h B 121 4 bC L.length (L.flatMap cX)
 map:aS j8 wr r (hB kn)
 tu:Tu (fun k=>lv.ownBlock=some k\/k=r) w wr
 bi:bC.ownBlock=lv.ownBlock\/∃g,bC.ownBlock=some g/\w.heap.size<=g
section
variable {h:Hp} {w wr w':World} {B r B0 b:Nat} {lv bC jl:Value} {L L2:List bq} {kn nD:List ByteArray} {bs:List Value}
theorem cz.below(s:cz h w B r lv wr bC L kn)(q:Below wr.heap.size wr w'):cz h w B r lv w' bC L kn:=
 ⟨s.own.same q,s.map.keep (q.block _ s.map.lt),s.tu.below q,s.bi⟩
theorem oK.type(a:hP B0 b bs wr):∃c,wr.heap[b]? =some (.cells c 224 (0,0)):=by rcases a with⟨_,v,h,_⟩|⟨_,v,h,_⟩<;>exact⟨_,h⟩
theorem Ow.type{e:TypeId}{k n:Nat}{v:Value}{xs:List Value}(o:Ow wr h B e k v n xs){g:Nat}(G:v.ownBlock=some g):∃c,wr.heap[g]? =some (.cells c e (0,0)):=by
 rcases o.row with⟨h1,⟨rfl,ab⟩|⟨g',O,Y,rfl,aj,J,_⟩⟩;·simp[bW]at G
 ·simp only[bW,aC]at G;subst G;exact⟨_,J⟩
theorem cz.apart(s:cz h w B r lv wr bC L kn)(a:hP B0 b bs wr):∀k,(bC.ownBlock=some k\/k=r)->k≠b/\∀c G,wr.heap[k]?≠some (.cells c 5 G):=fun k J=>by
 obtain⟨c1,h1⟩:=oK.type a;rcases J with J|rfl
 ·obtain⟨c2,h2⟩:=s.own.type J;refine⟨fun e=> ?_,fun c G e=> ?_⟩;·subst e;rw[h1]at h2;simp at h2
  ·rw[h2]at e;simp at e
 ·have h2:=s.map;unfold aS cG at h2;refine⟨fun e=> ?_,fun c G e=> ?_⟩;·subst e;rw[h1]at h2;cases h2
  ·rw[h2]at e;cases e
theorem cz.wrote(s:cz h w B r lv wr bC L kn)(a:hP B0 b bs wr)(q:jJ B0 b wr w')(G:w.heap.size<=B0):cz h w B r lv w' bC L kn:=
 ⟨q.ow s.own (by decide) fun e=>(s.apart a b (.inl e)).1 rfl,q.map s.map fun e=>(s.apart a r (.inr rfl)).1 e,q.tu s.tu G,s.bi⟩
theorem cz.call(s:cz h w B r lv wr bC L kn)(c:cz h wr B r bC w' jl L2 nD):cz h w B r lv w' jl L2 nD:=by
 refine⟨c.own,c.map,s.tu.step c.tu fun k G=> ?_,?_⟩
 ·rcases G with G|rfl
  ·rcases s.bi with e|⟨g,e,J⟩;·exact .inl (.inl (by rw[<-e];exact G))
   ·rw[e]at G;exact .inr (by rw[<-aU G];exact J)
  ·exact .inl (.inr rfl)
 ·rcases c.bi with e|⟨g,e,J⟩;·rw[e];exact s.bi
  ·exact .inr ⟨g,e,Nat.le_trans s.tu.size J⟩
theorem cz.I(s:cz h w B r lv wr bC L kn)(G:ao h w)(J:∀g,lv.ownBlock=some g->h g=none)(hr:h r=none):ao h wr:=s.tu.I G fun k e=>by
 rcases e with e|rfl;·exact J k e
 ·exact hr
theorem cz.tb{T:fq}{N:Nat}(s:cz h w B r lv wr bC L kn)(t:Tb T N w)(G:∀g,lv.ownBlock=some g->N<=g)(hr:N<=r):Tb T N wr:=t.below (s.tu.jR t.1 fun k e=>by
 rcases e with e|rfl;·exact G k e
 ·exact hr)
end
section
variable {x y:List aB} {k:Int×Int->List (Int×Int)}
theorem ze(hx:WF x)(hy:WF y)(l:List (Int×Int)):KA x y (ff x y (aQ x y l)):=⟨rp hx hy l,fun _ hp=>xO hx hy l hp⟩
theorem zf:∀(a b:List Int),a.Pairwise (·<·)->b.Pairwise (·<·)->(a.zip b).Pairwise fun p q=>p.1<q.1/\p.2<q.2
 |[],b,_,_=>by simp
 |u::a,[],_,_=>by simp
 |u::a,v::b,h1,h2=>by rw[fJ]at h1 h2;rw[List.zip_cons_cons,fJ];refine⟨fun r hr=> ?_,zf a b h1.2 h2.2⟩;have:=List.of_mem_zip hr;exact⟨h1.1 _ this.1,h2.1 _ this.2⟩
theorem zg(hx:WF x)(hy:WF y):KA x y (jQ x y):=
 ⟨tY hx hy,fun p hp=>vM _ (zf _ _ (hx.gU p.1.toNat _ (gV hp.1 hp.2.1)) (hy.gU p.2.toNat _ (gV hp.2.2.1 hp.2.2.2)))⟩
theorem Ge{p q:Int×Int}(h:q∈kp x y p):(nd x q.1).kind=(nd y q.2).kind:=by unfold kp fA at h;obtain⟨c,_,h⟩:=List.mem_flatMap.1 h;obtain⟨d,hd,rfl⟩:=b6.1 h;simpa using(lz.1 hd).2
theorem Gf(G:PO x)(J:PO y)(l:List (Int×Int)):cq (pX x y l)=c8 (ff x y (aQ x y l)) x.length (0,0):=by obtain⟨r,h1,h2⟩:=y7 (rp G.wf J.wf l) G.wf J.wf;unfold pX;rw[h1];exact yT (ze G.wf J.wf l) G J h2
theorem Gg(G:PO x)(J:PO y):cq (oW x y)=c8 (jQ x y) x.length (0,0):=by obtain⟨r,h1,h2⟩:=y7 (tY G.wf J.wf) G.wf J.wf;unfold oW;rw[h1];exact yT (zg G.wf J.wf) G J h2
theorem Gh{l:List (Int×Int)}(C:lj x y l):∃r,l=(0,0)::r:=by
 have G:=C.root;cases hl:l with
 |nil=>rw[hl]at G;simp at G
 |cons p r=>
  have hs:=C.y9;have O:=C.inr p (by rw[hl];simp);rw[hl]at hs G;rcases b8.1 G with G|G;·exact⟨r,by rw[G]⟩
  ·have J:=(fJ.1 hs).1 _ G;unfold bZ at O;unfold fV at J;simp only at J;omega
theorem Gi{l:List (Int×Int)}(C:lj x y l):((aQ x y l).getD 0 default).cost=bG (aQ x y l) (0,0):=by obtain⟨r,rfl⟩:=Gh C;rw[aQ,ra];exact(if_pos (show((0:Int),(0:Int))=((hT x y (0,0) (bG (aQ x y r))).a,(hT x y (0,0) (bG (aQ x y r))).b)from rfl)).symm
theorem Gj(G:PO x)(J:PO y)(nx:ct x=true)(ab:ct y=true)(O:(nd x 0).kind=(nd y 0).kind){l:List (Int×Int)}(C:lj x y l):dP x y (iO x y l).aR=some (iO x y l).cost:=by unfold iO;simp only;rw[Gf G J,yX (ze G.wf J.wf l) G J (fun p _ q Y=>Ge (rm l Y)) O,Gi C,zd G J nx ab C x.length (0,0) C.root (by simp),aC];have h1:(nd x 0).size=(x.length:Int):=G.wf.kS;have h2:(nd y 0).size=(y.length:Int):=J.wf.kS;simp only;omega
theorem uH{l:List (Int×Int)}(h:c6 l)(G:∀p∈l,bZ x y p):l.length<=x.length/\l.length<=y.length:=by
 constructor
 ·have:=q5 x.length (l.map fun p=>p.1.toNat) (by
   rw[ph,mo];refine pj ?_ h;intro a b ha J O e;have:=G a ha;have:=G b J;unfold bZ at*;omega) (by
   intro n hn;obtain⟨p,hp,rfl⟩:=b6.1 hn;have:=G p hp;unfold bZ at this;omega)
  simpa using this
 ·have:=q5 y.length (l.map fun p=>p.2.toNat) (by
   rw[ph,mo];refine pj ?_ h;intro a b ha J O e;have:=G a ha;have:=G b J;unfold bZ at*;omega) (by
   intro n hn;obtain⟨p,hp,rfl⟩:=b6.1 hn;have:=G p hp;unfold bZ at this;omega)
  simpa using this
theorem qe{M:List (Int×Int)}{c:Int}(h:dP x y M=some c):c=x.length+y.length+eO x y M/\c6 M/\∀p∈M,bZ x y p:=by
 obtain⟨h1,h2,G⟩:=tU x y M [] _ c h (by simp[c6]);simp only[ji]at h2 G;refine⟨h1,h2,fun p hp=> ?_⟩;obtain⟨a,b,rfl⟩:=List.append_of_mem hp;have ok:=G a p b rfl
 have J:0<=p.1/\0<=p.2:=by
  cases a with
  |nil=>have:p=(0,0):=ok.2.2.2.2.2.1.2 rfl;subst this;simp
  |cons q a=>have O:=G [] q (a++p::b) rfl;have:q=(0,0):=O.2.2.2.2.2.1.2 rfl;subst this;have:=(fJ.1 h2).1 p (by simp);simp only at this;omega
 exact⟨J.1,ok.2.2.1,J.2,ok.2.2.2.1⟩
theorem uI{M:List (Int×Int)}{c:Int}(h:dP x y M=some c):(x.length:Int)-y.length<=c/\(y.length:Int)-x.length<=c/\0<=c:=by obtain⟨h1,h2,G⟩:=qe h;have:=uH h2 G;have:=qd x y M;omega
theorem Gk(G:PO x)(J:PO y)(O:(nd x 0).kind=(nd y 0).kind):dP x y (dr x y).aR=some (dr x y).cost:=by have h:=yX (zg G.wf J.wf) G J (fun p _ q Y=>by simpa using(lz.1 Y).2) O;rw[<-Gg G J]at h;unfold dr;simp only;rw[h];rfl
theorem zh(J:PO x)(O:PO y)(budget:Int):pU x y (bE x y budget):=by
 unfold bE;by_cases G:(nd x 0).kind=(nd y 0).kind
 ·rw[if_pos G];have Y:pU x y (dr x y):=by have hp:=Gk J O G;refine⟨hp,?_,fun h=>by simp[dr]at h⟩;have:=uI hp;show max _ _<=_;omega
  by_cases hn:ct x=true/\ct y=true
  ·rw[if_pos hn];cases hc:fB x y budget with
   |none=>exact Y
   |some l=>have C:=Gb J.wf O.wf hc;refine⟨Gj J O hn.1 hn.2 G C,Int.le_refl _,fun _=>⟨rfl,?_⟩⟩;rw[if_pos G];refine⟨?_,Gd J.wf O.wf hn.1 hn.2 C,rfl⟩;show(fB x y (aQ x y (cq l)).length).map cq=some ((aQ x y (cq l)).map fun e=>(e.a,e.b));rw[pV,xQ,Ga J.wf O.wf hc,tV];rfl
  ·rw[if_neg hn];exact Y
 ·rw[if_neg G];refine⟨rfl,Int.le_refl _,fun _=>⟨rfl,?_⟩⟩;rw[if_neg G];exact⟨rfl,rfl⟩
theorem qf(G:PO x)(J:PO y)(budget:Int):dP x y (bE x y budget).aR=some (bE x y budget).cost:=(zh G J budget).1
theorem uJ(G:PO x)(J:PO y)(nx:ct x=true)(Y:ct y=true)(budget:Int)(aj:((x.length*y.length:Nat):Int)<=budget):(bE x y budget).gT=true/\(bE x y budget).a7=(bE x y budget).cost:=by
 unfold bE;by_cases O:(nd x 0).kind=(nd y 0).kind
 ·rw[if_pos O,if_pos ⟨nx,Y⟩];have hp:0<x.length*y.length:=Nat.mul_pos G.wf.pos J.wf.pos;cases hc:fB x y budget with
  |some l=>exact⟨rfl,rfl⟩
  |none=>
   exfalso;unfold fB at hc;rw[if_neg (by omega)]at hc;rcases q6 (q7 G.wf J.wf) budget.toNat (budget.toNat+1) [(0,0)] 0 (oS G.wf.pos J.wf.pos) (by simp;omega) (by omega)with⟨r,h1,_,_⟩|⟨_,r,j,h2,ab⟩;·rw[hc]at h1;cases h1
   ·have:=h2.len;omega
 ·rw[if_neg O];exact⟨rfl,rfl⟩
theorem zi(G:PO x)(J:PO y)(nx:ct x=true)(Y:ct y=true)(budget:Int)(O:((x.length*y.length:Nat):Int)<=budget){M:List (Int×Int)}{c:Int}(h:dP x y M=some c):(bE x y budget).cost<=c:=
 EE G.wf J.wf (zh G J budget) (uJ G J nx Y budget O).1 h
end
def dT(n:Nat):List (Int×Int):=(List.range n).map fun(i:Nat)=>((i:Int),(i:Int))
theorem Gl{x:List aB}(J:PO x):dP x x (dT x.length)=some 0:=by
 have ao:=J.wf.pos;have ab:c6 (dT x.length):=by unfold c6 dT;rw[mo];exact pk (fun{a b} h=>by simp only;omega) List.pairwise_lt_range
 have hw:∀(l:List Nat),eO x x (l.map fun(i:Nat)=>((i:Int),(i:Int)))= -2*(l.length:Int):=by
  intro l;induction l with
  |nil=>simp[eO]
  |cons a l ak=>rw[cR,qc,ak,bF];unfold cZ;rw[if_pos rfl];omega
 rw[uE J J ab,aC];·unfold dT;rw[hw,List.length_range];omega
 ·intro q O;obtain⟨i,G,rfl⟩:=b6.1 O;have:=ee.1 G;exact⟨⟨by simp,by simp only;omega,by simp,by simp only;omega⟩,rfl⟩
 ·obtain⟨n,hn⟩:∃n,x.length=n+1:=⟨x.length-1,by omega⟩
  rw[hn];unfold dT;rw[List.range_succ_eq_map];rfl
 ·intro q O aj;obtain⟨i,G,rfl⟩:=b6.1 O;have G:=ee.1 G
  have Y:0<i:=by
   rcases Nat.eq_zero_or_pos i with rfl|h;·exact absurd rfl aj
   ·exact h
  obtain⟨j,aJ,ax,aG,am,_⟩:=J.wf.par i _ (aE G) Y;have e:fC x x ((i:Int),(i:Int))=((j:Int),(j:Int)):=by unfold fC;simp only;rw[nL (aE G),am]
  rw[e];exact b6.2 ⟨j,ee.2 (by omega),rfl⟩
theorem uK{l:List (Int×Int)}(h:c6 l)(J:∀p∈l,0<=p.1/\0<=p.2):∀(i:Nat) (G:i<l.length),(i:Int)<=l[i].1/\(i:Int)<=l[i].2
 |0,G=>by have:=J l[0] (aK G);omega
 |i+1,G=>by have h1:=uK h J i (by omega);have h2:=K3.1 h i (i+1) (by omega) G (by omega);omega
theorem uL{l:List (Int×Int)}{n:Nat}(h:c6 l)(J:∀p∈l,p.1<n/\p.2<n):∀(d i:Nat) (G:i<l.length),d+i+1=l.length->l[i].1+(d:Int)+1<=n/\l[i].2+(d:Int)+1<=n
 |0,i,G,_=>by have:=J l[i] (aK G);omega
 |d+1,i,G,e=>by have h1:=uL h J d (i+1) (by omega) (by omega);have h2:=K3.1 h i (i+1) G (by omega) (by omega);omega
theorem Gm{x:List aB}(G:PO x)(nx:ct x=true)(budget:Int)(Y:((x.length*x.length:Nat):Int)<=budget):(bE x x budget).cost=0/\(bE x x budget).gT=true/\(bE x x budget).aR=dT x.length:=by
 have h1:=zi G G nx nx budget Y (Gl G);have hp:=qf G G budget;have h2:=uI hp;have hc:(bE x x budget).cost=0:=by omega
 refine⟨hc,(uJ G G nx nx budget Y).1,?_⟩;rw[hc]at hp;obtain⟨e,ha,J⟩:=qe hp;have hw:=qd x x (bE x x budget).aR;have am:=uH ha J;have aj:(bE x x budget).aR.length=x.length:=by omega
 apply List.ext_getElem;·rw[aj];simp[dT]
 ·intro i O ak;have g1:=uK ha (fun p hp=>⟨(J p hp).1,(J p hp).2.2.1⟩) i O;have g2:=uL (n:=x.length) ha (fun p hp=>⟨(J p hp).2.1,(J p hp).2.2.2⟩) (x.length-i-1) i O (by omega);have ab:(dT x.length)[i]=((i:Int),(i:Int)):=by simp[dT]
  rw[ab];exact Prod.ext (by simp only;omega) (by simp only;omega)
theorem uM{t:Tree}(h:t.size<=400):ct (aO t)=true:=by unfold ct;have J:=nJ t;simp only[Bool.and_eq_true,decide_eq_true_eq,List.all_eq_true];refine⟨by omega,fun n hn=> ?_⟩;obtain⟨i,G,rfl⟩:=List.mem_iff_getElem.1 hn;have:=Lp (q4 t) (i:=(i:Int)) (by omega) (by omega);rw[nL (aE G)]at this;omega
def jx:List UInt8->Option (List UInt8)
 |[]=>none
 |c::r=>if c=92 then(match r with|[]=>none|_::r=>jx r)else if c=34 then some r else jx r
theorem GL(z:UInt8)(r:List UInt8):jx (92::z::r)=jx r:=by simp[jx]
theorem GM(r:List UInt8):jx (34::r)=some r:=by unfold jx;rw[if_neg (by decide),if_pos rfl]
theorem GN(c:UInt8)(r:List UInt8)(h1:c≠92)(h2:c≠34):jx (c::r)=jx r:=by rw[jx.eq_def];simp only;rw[if_neg h1,if_neg h2]
def u8(n:Int):UInt8:=UInt8.ofNat n.toNat
def bT(l:List Int):Prop:=∀r,jx (l.map u8++r)=jx r
def Safe(z:Int):Prop:=0<=z/\z<=255/\z≠34/\z≠92
theorem zC{z:Int}{n:Nat}(G:0<=z)(h1:z<=255)(hn:n<256)(h:z≠n):u8 z≠UInt8.ofNat n:=by unfold u8;intro e;have:=congrArg UInt8.toNat e;simp only[sR]at this;omega
theorem bT.nil:bT []:=fun _=>rfl
theorem bT.safe{z:Int}(h:Safe z){l:List Int}(G:bT l):bT (z::l):=fun r=>by have h1:u8 z≠92:=zC (n:=92) h.1 h.2.1 (by omega) h.2.2.2;have h2:u8 z≠34:=zC (n:=34) h.1 h.2.1 (by omega) h.2.2.1;rw[cR,GP,GN _ _ h1 h2];exact G r
theorem bT.jy(z:Int){l:List Int}(G:bT l):bT (92::z::l):=fun r=>by rw[cR,cR,GP,GP];exact(GL _ _).trans (G r)
theorem bT.append{a b:List Int}(ha:bT a)(G:bT b):bT (a++b):=fun r=>by rw[gO,fI,ha,G]
theorem bT.all{l:List Int}(h:∀z∈l,Safe z):bT l:=by
 induction l with
 |nil=>exact bT.nil
 |cons a l G=>exact bT.safe (h a eu) (G fun z hz=>h z (cW _ hz))
theorem qi{x:Nat}(h:x<16):Safe (Lib.hexDigit x):=by unfold Lib.hexDigit Safe;split<;>omega
theorem uU(r n:Nat):bT (Lib.hexDigits r n):=by
 induction n with
 |zero=>exact bT.nil
 |succ n G=>rw[Lib.hexDigits];exact bT.safe (qi (Cc _ (by omega))) G
theorem GO{r:Int}(h1:r≠34)(h2:r≠92):bT (Lib.encodeRuneZ r):=by
 apply bT.all;unfold Lib.encodeRuneZ Safe;intro z hz;split at hz;·simp at hz;omega
 split at hz;·simp at hz;omega
 split at hz;·simp at hz;omega
 split at hz;·simp at hz;omega
 ·simp at hz;omega
theorem GQ(T:fq){r:Int}(_h0:0<=r):bT (Lib.escRune T r):=by
 unfold Lib.escRune;by_cases G:r=34\/r=92;·rw[if_pos G];exact bT.jy _ bT.nil
 rw[if_neg G];by_cases c1:Lib.isPrintR T r=true;·rw[if_pos c1];exact GO (fun e=>G (.inl e)) fun e=>G (.inr e)
 rw[if_neg c1];by_cases c2:r=7;·rw[if_pos c2];exact bT.jy _ bT.nil
 rw[if_neg c2];by_cases c3:r=8;·rw[if_pos c3];exact bT.jy _ bT.nil
 rw[if_neg c3];by_cases c4:r=12;·rw[if_pos c4];exact bT.jy _ bT.nil
 rw[if_neg c4];by_cases c5:r=10;·rw[if_pos c5];exact bT.jy _ bT.nil
 rw[if_neg c5];by_cases Y:r=13;·rw[if_pos Y];exact bT.jy _ bT.nil
 rw[if_neg Y];by_cases ab:r=9;·rw[if_pos ab];exact bT.jy _ bT.nil
 rw[if_neg ab];by_cases aj:r=11;·rw[if_pos aj];exact bT.jy _ bT.nil
 rw[if_neg aj];by_cases ak:r<32\/r=127;·rw[if_pos ak];exact bT.jy _ (bT.safe (qi (by omega)) (bT.safe (qi (Cc _ (by omega))) bT.nil))
 rw[if_neg ak];by_cases J:Lib.validRune r=false;·rw[if_pos J];exact bT.jy _ (uU _ _)
 rw[if_neg J];by_cases O:r<65536;·rw[if_pos O];exact bT.jy _ (uU _ _)
 rw[if_neg O];exact bT.jy _ (uU _ _)
theorem step_skip(T:fq)(s:ByteArray):bT (Lib.quoteStep T s):=by
 unfold Lib.quoteStep;split;·have:=UInt8.toNat_lt (s.get! 0);exact bT.jy _ (bT.safe (qi (by omega)) (bT.safe (qi (Cc _ (by omega))) bT.nil))
 ·exact GQ T (by omega)
theorem zD(T:fq):∀(f:Nat) (s:ByteArray),bT (Cd T f s)
 |0,_=>bT.nil
 |f+1,s=>by
  rw[Cd];split;·exact(step_skip T s).append (zD T f _)
  ·exact bT.nil
theorem zE(T:fq)(s:ByteArray)(r:List UInt8):∃q,mB T s++r=34::q/\jx q=some r:=by
 refine⟨(Cd T s.size s).map u8++(34::r),?_,?_⟩;·unfold mB Lib.quoteZ;simp only[cR,gO,List.map_nil,GP,fI,ji];rfl
 ·rw[zD T _ _ (34::r),GM]
theorem uV(u:Nat):∀b∈pz u,48<=b.toNat/\b.toNat<=57:=by
 induction u using KT with
 |ind u J=>
  intro b G;rw[pz]at G;split at G;·have:=eR.1 G;subst this;rw[sR];omega
  ·rcases xm.1 G with G|G;·exact J (u/10) (by omega) b G
   ·have:=eR.1 G;subst this;rw[sR];omega
theorem zF(u:Nat):(pz u).foldl (fun a b=>a*10+(b.toNat-48)) 0=u:=by
 induction u using KT with
 |ind u G=>
  rw[pz];split;·rw[dK,fk,sR];omega
  ·rw[List.foldl_append,G (u/10) (by omega)];rw[dK,fk,sR];omega
theorem zG{u v:Nat}(h:pz u=pz v):u=v:=by rw[<-zF u,h,zF]
theorem rV(n:Int):∀b∈eQ n,b≠32:=by
 intro b G e;subst e;unfold eQ at G;split at G
 ·rcases b8.1 G with h|h;·cases h
  ·exact absurd (uV _ _ h).1 (by decide)
 ·exact absurd (uV _ _ G).1 (by decide)
theorem zH:∀(u:Nat) (r:List UInt8),45::r≠pz u:=fun u r e=>by have:=uV u 45 (by rw[<-e];exact eu);exact absurd this.1 (by decide)
theorem zI{a b:Int}(h:eQ a=eQ b):a=b:=by
 unfold eQ at h;split at h<;>split at h;·have:=zG (pA h).2;omega
 ·exact absurd h (zH _ _)
 ·exact absurd h.symm (zH _ _)
 ·have:=zG h;omega
theorem zJ{a b x y:List UInt8}(ha:∀c∈a,c≠32)(G:∀c∈b,c≠32)(hx:x=[]\/∃r,x=32::r)(hy:y=[]\/∃r,y=32::r)(h:a++x=b++y):a=b/\x=y:=by
 induction a generalizing b with
 |nil=>
  cases b with
  |nil=>exact⟨rfl,h⟩
  |cons c b=>
   rw[ji]at h;rcases hx with rfl|⟨r,rfl⟩;·cases h
   ·exact absurd (pA h).1.symm (G c eu)
 |cons d a Y=>
  cases b with
  |nil=>
   rw[ji]at h;rcases hy with rfl|⟨r,rfl⟩;·cases h
   ·exact absurd (pA h).1 (ha d eu)
  |cons c b=>obtain⟨h1,h2⟩:=pA h;obtain⟨J,O⟩:=Y (fun c hc=>ha c (cW _ hc)) (fun c hc=>G c (cW _ hc)) h2;exact⟨by rw[h1,J],O⟩
theorem zK(cs:List Nat):(cs.flatMap fun(c:Nat)=>32::eQ c)=[]\/∃r,(cs.flatMap fun(c:Nat)=>32::eQ c)=32::r:=by
 cases cs with
 |nil=>exact .inl rfl
 |cons a l=>exact .inr ⟨_,by rw[fH];rfl⟩
theorem zL:∀(cs ds:List Nat),(cs.flatMap fun(c:Nat)=>32::eQ c)=(ds.flatMap fun(c:Nat)=>32::eQ c)->cs=ds
 |[],[],_=>rfl
 |[],d::ds,h=>by rw[fH]at h;cases h
 |c::cs,[],h=>by rw[fH]at h;cases h
 |c::cs,d::ds,h=>by rw[fH,fH,GP,GP]at h;obtain⟨G,J⟩:=zJ (rV _) (rV _) (zK _) (zK _) (pA h).2;have:=zI G;rw[zL cs ds J];congr 1;omega
theorem GR(T:fq){k k':Int}{s s':ByteArray}{cs G:List Nat}(h:pE T k s cs=pE T k' s' G):k=k'/\cs=G:=by
 unfold pE at h;obtain⟨J,O⟩:=zJ (rV _) (rV _) (.inr ⟨_,rfl⟩) (.inr ⟨_,rfl⟩) h;refine⟨zI J,zL _ _ ?_⟩;have Y:=(pA O).2;obtain⟨q,h1,h2⟩:=zE T s (cs.flatMap fun(c:Nat)=>32::eQ c);obtain⟨q',aj,ak⟩:=zE T s' (G.flatMap fun(c:Nat)=>32::eQ c);have ab:34::q=34::q':=by rw[<-h1,<-aj];exact Y
 have:=(pA ab).2;rw[this,ak]at h2;exact(aU h2).symm
section
variable {ck:Int->ByteArray->List Nat->ByteArray}
mutual
theorem GU{m:Nat}:∀(t:Tree) (n:Nat) (kn:List ByteArray),∀x∈(cS ck m t n kn).1,x.module=m
 | .node k s l G,n,kn,x,hx=>by
  rw[cS]at hx;rcases b8.1 hx with rfl|hx;·rfl
  ·exact uW G (n+1) kn x hx
theorem uW{m:Nat}:∀(ts:List Tree) (n:Nat) (kn:List ByteArray),∀x∈(bz ck m ts n kn).1,x.module=m
 |[],n,kn,x,hx=>by rw[bz]at hx;cases hx
 |t::ts,n,kn,x,hx=>by
  rw[bz]at hx;rcases xm.1 hx with hx|hx;·exact GU t n kn x hx
  ·exact uW ts _ _ x hx
end
end
def nY(ck:Int->ByteArray->List Nat->ByteArray):Prop:=∀⦃k k' s s' cs cs'⦄,ck k s cs=ck k' s' cs'->k=k'/\cs=cs'
section
variable (ck:Int->ByteArray->List Nat->ByteArray)
mutual
def dU(kn:List ByteArray):Tree->Nat->Prop
 | .node k s _ ks,c=>∃cs,kn[c]? =some (ck k s cs)/\(∀d∈cs,d<c)/\fY kn ks cs
def fY(kn:List ByteArray):List Tree->List Nat->Prop
 |[],cs=>cs=[]
 |t::ts,cs=>∃d ds,cs=d::ds/\dU kn t d/\fY kn ts ds
end
def ln(kn:List ByteArray):Prop:=∀i (hi:i<kn.length),∃k s cs,kn[i]=ck k s cs/\∀d∈cs,d<i
end
mutual
def iZ:Tree->List Int
 | .node k _ _ ks=>k::ja ks
def ja:List Tree->List Int
 |[]=>[]
 |t::ts=>iZ t++ja ts
end
mutual
theorem lp:∀t:Tree,(iZ t).length=t.size
 | .node k s l G=>by rw[iZ,Tree.size,bF,zM G]
theorem zM:∀ts:List Tree,(ja ts).length=ax ts
 |[]=>by rw[ja,ax];rfl
 |t::ts=>by rw[ja,ax,cI,lp t,zM ts]
end
section
variable {ck:Int->ByteArray->List Nat->ByteArray}
mutual
theorem dU.mono{kn G:List ByteArray}(h:kn<+:G):∀(t:Tree) (c:Nat),dU ck kn t c->dU ck G t c
 | .node k s l O,c,q=>by
  rw[dU]at q⊢;obtain⟨cs,h1,h2,J⟩:=q;refine⟨cs,?_,h2,fY.mono h O cs J⟩;obtain⟨r,rfl⟩:=h
  have hc:c<kn.length:=by
   rcases b7 c kn.length with q|q;·exact q
   ·rw[gM q]at h1;cases h1
  rw[List.getElem?_append_left hc];exact h1
theorem fY.mono{kn G:List ByteArray}(h:kn<+:G):∀(ts:List Tree) (cs:List Nat),fY ck kn ts cs->fY ck G ts cs
 |[],cs,q=>by rw[fY]at q⊢;exact q
 |t::ts,cs,q=>by rw[fY]at q⊢;obtain⟨d,ds,h1,h2,J⟩:=q;exact⟨d,ds,h1,dU.mono h t d h2,fY.mono h ts ds J⟩
end
theorem dU.kinds(aM:nY ck){kn:List ByteArray}(n:Nat):∀c,c<n->∀t u,dU ck kn t c->dU ck kn u c->iZ t=iZ u:=by
 induction n with
 |zero=>intro c hc;omega
 |succ n aJ=>
  intro c hc t u O Y;cases t with
  |node k s l G=>
   cases u with
   |node k' s' l' J=>
    rw[dU]at O Y;obtain⟨cs,h1,h2,ax⟩:=O;obtain⟨aN,g1,g2,ak⟩:=Y;rw[h1]at g1;obtain⟨rfl,rfl⟩:=aM (aU g1);rw[iZ,iZ];congr 1
    have key:∀(cs:List Nat) (G J:List Tree),(∀d∈cs,d<c)->fY ck kn G cs->fY ck kn J cs->ja G=ja J:=by
     intro cs;induction cs with
     |nil=>
      intro G J _ h g;cases G with
      |nil=>cases J with
       |nil=>rfl
       |cons a l=>rw[fY]at g;obtain⟨_,_,e,_⟩:=g;cases e
      |cons a l=>rw[fY]at h;obtain⟨_,_,e,_⟩:=h;cases e
     |cons d cs aL=>
      intro G J hd h g;cases G with
      |nil=>rw[fY]at h;cases h
      |cons a l=>cases J with
       |nil=>rw[fY]at g;cases g
       |cons b m=>rw[fY]at h g;obtain⟨_,_,ab,aB,aG⟩:=h;obtain⟨_,_,aj,am,ao⟩:=g;cases ab;cases aj;rw[ja,ja,aJ d (by have:=hd d eu;omega) a b aB am,aL l m (fun e he=>hd e (cW _ he)) aG ao]
    exact key cs G J h2 ax ak
theorem dU.lt{kn:List ByteArray}{t:Tree}{c:Nat}(h:dU ck kn t c):c<kn.length:=by
 cases t with
 |node k s l G=>
  rw[dU]at h;obtain⟨cs,h1,_⟩:=h;rcases b7 c kn.length with q|q;·exact q
  ·rw[gM q]at h1;cases h1
theorem GV(aj:nY ck){kn:List ByteArray}(J:ln ck kn)(k:Int)(s:ByteArray)(cs:List Nat)(Y:∀d∈cs,d<kn.length):kn<+:(gw kn (ck k s cs)).2/\ln ck (gw kn (ck k s cs)).2/\(gw kn (ck k s cs)).2[(gw kn (ck k s cs)).1]? =some (ck k s cs)/\∀d∈cs,d<(gw kn (ck k s cs)).1:=by
 unfold gw;split;·rename_i i h;rw[oB]at h;obtain⟨G,h1,-⟩:=h;simp only[decide_eq_true_eq]at h1;refine⟨Ce,J,by simp only;rw[aE G,h1],?_⟩;obtain⟨k',s',ak,O,ab⟩:=J i G;rw[h1]at O;obtain⟨-,rfl⟩:=aj O;exact ab
 ·refine⟨⟨_,rfl⟩,fun i G=> ?_,by simp,Y⟩;simp only[cI,bF,cL]at G;by_cases e:i<kn.length;·rw[List.getElem_append_left e];exact J i e
  ·obtain rfl:i=kn.length:=by omega
   exact⟨k,s,cs,by simp,Y⟩
mutual
theorem GX(J:nY ck)(m:Nat):∀(t:Tree) (n:Nat) (kn:List ByteArray),ln ck kn->kn<+:(cS ck m t n kn).2.2/\ln ck (cS ck m t n kn).2.2/\dU ck (cS ck m t n kn).2.2 t (cS ck m t n kn).2.1/\∀x∈(cS ck m t n kn).1,∃u,dU ck (cS ck m t n kn).2.2 u x.a6/\x.size=u.size/\n<=x.number/\((iZ t).drop (x.number-n)).take u.size=iZ u
 | .node k s l G,n,kn,aj=>by
  obtain⟨h1,h2,O,Y,ab⟩:=uX J m G (n+1) kn aj;have q:=GV J h2 k s _ Y;rw[cS];simp only;have e:dU ck (gw (bz ck m G (n+1) kn).2.2 (ck k s (bz ck m G (n+1) kn).2.1)).2 (.node k s l G) (gw (bz ck m G (n+1) kn).2.2 (ck k s (bz ck m G (n+1) kn).2.1)).1:=by rw[dU];exact⟨_,q.2.2.1,q.2.2.2,fY.mono q.1 _ _ O⟩
  refine⟨h1.trans q.1,q.2.1,e,fun x hx=> ?_⟩;rcases b8.1 hx with rfl|hx;·refine⟨_,e,by simp only[Tree.size],kI _,?_⟩;simp only[Nat.sub_self,List.drop_zero];rw[List.take_of_length_le (by rw[lp];exact kI _)]
  ·obtain⟨u,ak,am,ax,ao⟩:=ab x hx;refine⟨u,ak.mono q.1,am,by omega,?_⟩;rw[iZ,show x.number-n=(x.number-(n+1))+1 by omega,List.drop_succ_cons];exact ao
theorem uX(aj:nY ck)(m:Nat):∀(ts:List Tree) (n:Nat) (kn:List ByteArray),ln ck kn->kn<+:(bz ck m ts n kn).2.2/\ln ck (bz ck m ts n kn).2.2/\fY ck (bz ck m ts n kn).2.2 ts (bz ck m ts n kn).2.1/\(∀d∈(bz ck m ts n kn).2.1,d<(bz ck m ts n kn).2.2.length)/\∀x∈(bz ck m ts n kn).1,∃u,dU ck (bz ck m ts n kn).2.2 u x.a6/\x.size=u.size/\n<=x.number/\((ja ts).drop (x.number-n)).take u.size=iZ u
 |[],n,kn,J=>by rw[bz];exact⟨Ce,J,by rw[fY],fun _ h=>by(cases h),fun _ h=>by cases h⟩
 |t::ts,n,kn,J=>by
  obtain⟨h1,h2,ab,aB⟩:=GX aj m t n kn J;obtain⟨g1,g2,am,ao,ax⟩:=uX aj m ts (n+t.size) _ h2;rw[bz];simp only;refine⟨h1.trans g1,g2,?_,fun d hd=> ?_,fun x hx=> ?_⟩;·rw[fY];exact⟨_,_,rfl,dU.mono g1 _ _ ab,am⟩
  ·rcases b8.1 hd with rfl|hd;·exact dU.lt (dU.mono g1 _ _ ab)
   ·exact ao d hd
  ·rw[ja];rcases xm.1 hx with hx|hx;·obtain⟨u,O,Y,ak,G⟩:=aB x hx;refine⟨u,dU.mono g1 _ _ O,Y,ak,?_⟩;have aG:=congrArg List.length G;rw[List.length_take,pq,lp,lp]at aG;have aJ:=u.size_eq;rw[List.drop_append_of_le_length (by rw[lp];omega),List.take_append_of_le_length (by rw[pq,lp];omega)];exact G
   ·obtain⟨u,O,Y,ak,G⟩:=ax x hx;refine⟨u,O,Y,by omega,?_⟩;rw[List.drop_append,List.drop_of_length_le (by rw[lp];omega),ji,lp,show x.number-n-t.size=x.number-(n+t.size) by omega];exact G
end
theorem zN(am:nY ck)(ds:List cF)(kn:List ByteArray)(aj:ln ck kn):kn<+:(dk ck ds kn).2/\ln ck (dk ck ds kn).2/\∀x∈(dk ck ds kn).1,∃u,dU ck (dk ck ds kn).2 u x.a6/\x.size=u.size/\∃d∈ds,x.module=d.module/\d.number+1<=x.number/\((ja d.t.kids).drop (x.number-(d.number+1))).take u.size=iZ u:=by
 unfold dk
 have key:∀(es:List cF) (s:List bq×List ByteArray),(∀d∈es,d∈ds)->kn<+:s.2->ln ck s.2->(∀x∈s.1,∃u,dU ck s.2 u x.a6/\x.size=u.size/\∃d∈ds,x.module=d.module/\d.number+1<=x.number/\((ja d.t.kids).drop (x.number-(d.number+1))).take u.size=iZ u)->
   kn<+:(es.foldl (gG ck) s).2/\ln ck (es.foldl (gG ck) s).2/\∀x∈(es.foldl (gG ck) s).1,∃u,dU ck (es.foldl (gG ck) s).2 u x.a6/\x.size=u.size/\∃d∈ds,x.module=d.module/\d.number+1<=x.number/\((ja d.t.kids).drop (x.number-(d.number+1))).take u.size=iZ u:=by
  intro es;induction es with
  |nil=>intro s _ h1 h2 G;exact⟨h1,h2,G⟩
  |cons d es ak=>
   intro s Y h1 h2 G;rw[dK];obtain⟨g1,g2,-,-,ab⟩:=uX am d.module d.t.kids (d.number+1) s.2 h2;refine ak _ (fun e he=>Y e (cW _ he)) (h1.trans g1) g2 fun x hx=> ?_;unfold gG at hx⊢;simp only at hx⊢;rcases xm.1 hx with hx|hx;·obtain⟨u,J,O⟩:=G x hx;exact⟨u,dU.mono g1 _ _ J,O⟩
   ·obtain⟨u,J,O,ao,ax⟩:=ab x hx
    exact⟨u,J,O,d,Y d eu,(by
     have:∀(ts:List Tree) (n:Nat) (kn:List ByteArray),∀x∈(bz ck d.module ts n kn).1,x.module=d.module:=fun ts n kn x hx=>(uW ts n kn x hx)
     exact this _ _ _ x hx),ao,ax⟩
 exact key ds ([],kn) (fun _ h=>h) Ce aj fun x hx=>by cases hx
theorem GY(G:nY ck)(od nd:List cF):∀x∈(dk ck od []).1,∀y∈(dk ck nd (dk ck od []).2).1,x.a6=y.a6->x.size=y.size:=by intro x hx y hy e;obtain⟨ao,J,O⟩:=zN G od [] (fun i Y=>by simp at Y);obtain⟨b1,b2,b3⟩:=zN G nd _ J;obtain⟨u,ab,aj,-⟩:=O x hx;obtain⟨v,ak,am,-⟩:=b3 y hy;have:=dU.kinds G (x.a6+1) x.a6 (by omega) u v (dU.mono b1 _ _ ab) (by rw[e];exact ak);rw[aj,am,<-lp,<-lp,this]
end
theorem GZ(T:fq):nY (aX T):=fun k k' s s' cs G h=>by unfold aX at h;have:=congrArg (fun b:ByteArray=>b.data.toList) h;exact GR T (by simpa using this)
end Go.Proofs.YtdplggpbgommnaaGreatDoor
