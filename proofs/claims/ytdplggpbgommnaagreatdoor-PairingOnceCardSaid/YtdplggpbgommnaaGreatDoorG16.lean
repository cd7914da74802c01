/- pairing.classes.of. -/
import Derived.Test.YtdplggpbgommnaaGreatDoorG15
import Derived.Lib.ItoaLen
open Array renaming getElem?_eq_none->iF
open ByteArray renaming size->J7
open Go renaming bodyPost_ret->aF,heap_alloc_new->gL,heap_alloc_old->oi
open Go.IntKind renaming i64->ae
open Go.Lib renaming PrintTabs->fq,byteCells_append->J9,byteCells_length->J8,byteCells->vB,decDigits->pz,hid->aa,itoa_length_le->Bs,itoa->eQ,quoteFrom->Cd
open Go.Proofs.Tryz renaming prog->ai,results108->Kb,underlying114->Br
open Go.RowKit.Below renaming heap_setCell->cH,refl->aD
open Go.Value renaming int->af,ownBlock->bW,pointer->az,slice->ag,string->ah,tuple->bD
open List renaming Nodup->ph,append_assoc->fI,cons_append->GP,findIdx?_eq_some_iff_getElem->oB,findIdx?_isSome->Ka,flatMap_append->sv,flatMap_cons->fH,foldl_cons->dK,foldl_nil->fk,getElem?_cons_zero->bc,getElem?_eq_getElem->aE,getElem?_eq_none->gM,getElem?_toArray->bw,getElem_mem->aK,length_append->cI,length_cons->bF,length_drop->pq,length_nil->cL,length_take->mb,map_append->gO,map_cons->cR,mem_append->xm,mem_cons_of_mem->cW,mem_cons_self->eu,mem_cons->b8,mem_filter->lz,mem_map->b6,mem_singleton->eR,nil_append->ji,pairwise_cons->fJ,pairwise_iff_getElem->K3,pairwise_map->mo,prefix_rfl->Ce,set_append_right->ma
open List.Pairwise renaming filter->vM,imp_of_mem->pj
open List.cons renaming inj->pA
open Nat renaming add_sub_cancel_left->Bq,le_of_lt->kB,le_refl->kI,le_trans->b5,lt_or_ge->b7,mod_lt->Cc,strongRecOn->KT
open Option.some renaming injEq->aC,inj->aU
open UInt8 renaming toNat_ofNat'->sR
set_option maxRecDepth 100000
set_option maxHeartbeats 1000000
namespace Go.Proofs.YtdplggpbgommnaaGreatDoor
open Go.RowKit
section
variable {ck:Int->ByteArray->List Nat->ByteArray}
theorem s6(m:Nat):∀(ts:List Tree) (t:Tree) (n:Nat) (kn:List ByteArray),bz ck m (ts++[t]) n kn=(let a:=bz ck m ts n kn;let b:=cS ck m t (n+ax ts) a.2.2;(a.1++b.1,a.2.1++[b.2.1],b.2.2))
 |[],t,n,kn=>by simp[bz,ax]
 |u::ts,t,n,kn=>by rw[GP,bz,bz];simp only;rw[s6 m ts t];simp only[gR,Nat.add_assoc,fI,GP]
theorem Cu(m:Nat)(t:Tree)(n:Nat)(kn:List ByteArray):cS ck m t n kn=(let r:=bz ck m t.kids (n+1) kn;let q:=gw r.2.2 (ck t.kind t.text r.2.1);(⟨m,n,t.size,q.1⟩::r.1,q.1,q.2)):=by cases t;rw[cS];simp only[Tree.kids,Tree.kind,Tree.text,Tree.size]
end
theorem s5(l:List bq):(l.flatMap cX).length=l.length*4:=by
 induction l with
 |nil=>rfl
 |cons a l G=>simp only[fH,cI,G,cX,bF,cL];omega
theorem hP.tu{B b:Nat}{bs:List Value}{w w':World}{S:Nat->Prop}(h:hP B b bs w)(t:Tu S w w')(hS:∀k,S k->k≠b/\∀c G,w.heap[k]?≠some (.cells c 5 G)):hP B b bs w':=by
 have key:∀p,Lib.BuilderAtF 224 5 B b p bs w->Lib.BuilderAtF 224 5 B b p bs w':=fun p ⟨am,v,Y,aB,ax⟩=>by
  have aj:∀{k:Nat} {o:Obj},w.heap[k]? =some o->k<w.heap.size:=fun{k o} ab=>by
   rcases b7 k w.heap.size with q|q;·exact q
   ·rw[iF q]at ab;cases ab
  refine⟨am,v,(t.block b (aj Y) fun e=>(hS b e).1 rfl).trans Y,?_,ax⟩;rcases aB with⟨h1,h2|⟨g,ak,O,G,hv,ao,J,r⟩⟩;·exact⟨h1,.inl h2⟩
  ·exact⟨h1,.inr ⟨g,ak,O,G,hv,ao,(t.block g (aj J) fun e=>(hS g e).2 O G J).trans J,r⟩⟩
 rcases h with h|h;·exact .inl (key _ h)
 ·exact .inr (key _ h)
theorem jJ.tu{B b:Nat}{w w1 w2:World}{S:Nat->Prop}(h:jJ B b w1 w2)(t:Tu S w w1)(G:w.heap.size<=B):Tu S w w2:=
 t.step (S':=fun k=>B<=k) ⟨h.1.os,h.1.tape,h.1.output,h.1.size,fun k _ hn=>h.1.block k (by omega)⟩ fun k J=> .inr (by omega)
theorem jJ.ow{B b B':Nat}{w w':World}{h:Hp}{e:TypeId}{k n:Nat}{v:Value}{xs:List Value}(r:jJ B b w w')(o:Ow w h B' e k v n xs)(he:e≠5)(Y:v.ownBlock≠some b):Ow w' h B' e k v n xs:=by
 refine o.keep (fun g J=> ?_) fun _ _=>rfl;rcases o.row with⟨h1,⟨rfl,am⟩|⟨g',ab,aj,rfl,ao,O,aG,ax,aB,aJ⟩⟩;·simp[bW]at J
 ·simp only[bW,aC]at J;subst J;rw[O];exact r.2 g' _ O (fun G=>Y (by rw[<-G];rfl)) fun c ak G=>he (by injection G)
theorem jJ.map{K:Type}{enc:K->Value}{B b:Nat}{w w':World}{r:Nat}{l:List (K×Value)}(q:jJ B b w w')(m:aS enc w r l)(G:r≠b):aS enc w' r l:=
 m.keep (by rw[m];exact q.2 r _ m (fun e=>G (aU e)) fun c J e=>by unfold cG at e;cases e)
theorem hP.new(w:World):hP w.heap.size w.heap.size [] (w.alloc (.cells #[az none,ag none 0 0] 224)):=
 .inl ⟨kI _,ag none 0 0,gL w _,⟨by simp,.inl ⟨rfl,rfl⟩⟩,by simp[bW]⟩
section
variable {ck:Int->ByteArray->List Nat->ByteArray}
theorem FP(kn:List ByteArray)(key:ByteArray):kn.length<=(gw kn key).2.length/\(gw kn key).2.length<=kn.length+1/\(gw kn key).1<(gw kn key).2.length:=by
 unfold gw;split;·rename_i i h;have:=(oB.1 h).1;exact⟨kI _,by simp,this⟩
 ·simp
mutual
theorem wB(m:Nat):∀(t:Tree) (n:Nat) (kn:List ByteArray),(cS ck m t n kn).1.length=t.size/\kn.length<=(cS ck m t n kn).2.2.length/\(cS ck m t n kn).2.2.length<=kn.length+t.size/\(cS ck m t n kn).2.1<(cS ck m t n kn).2.2.length
 | .node k s ls G,n,kn=>by have h:=pF m G (n+1) kn;rw[cS];have q:=FP (bz ck m G (n+1) kn).2.2 (ck k s (bz ck m G (n+1) kn).2.1);simp only[bF,Tree.size];exact⟨by rw[h.1],by omega,by omega,q.2.2⟩
theorem pF(m:Nat):∀(ts:List Tree) (n:Nat) (kn:List ByteArray),(bz ck m ts n kn).1.length=ax ts/\kn.length<=(bz ck m ts n kn).2.2.length/\(bz ck m ts n kn).2.2.length<=kn.length+ax ts/\(∀c∈(bz ck m ts n kn).2.1,c<kn.length+ax ts)/\(bz ck m ts n kn).2.1.length=ts.length
 |[],n,kn=>by simp[bz,ax]
 |t::ts,n,kn=>by
  have h1:=wB m t n kn;have h2:=pF m ts (n+t.size) (cS ck m t n kn).2.2;rw[bz];simp only[cI,bF,gR];refine⟨by omega,by omega,by omega,fun c hc=> ?_,by omega⟩;rcases b8.1 hc with rfl|hc;·omega
  ·have:=h2.2.2.2.1 c hc;omega
end
end
structure cz(h:Hp)(w:World)(B r:Nat)(lv:Value)(wr:World)(bC:Value)(L:List bq)(kn:List ByteArray):Prop where
 own:Ow wr h B 121 4 bC L.length (L.flatMap cX)
 map:aS j8 wr r (hB kn)
 tu:Tu (fun k=>lv.ownBlock=some k\/k=r) w wr
 bi:bC.ownBlock=lv.ownBlock\/∃g,bC.ownBlock=some g/\w.heap.size<=g
section
variable {h:Hp} {w wr w':World} {B r B0 b:Nat} {lv bC jl:Value} {L L2:List bq} {kn nD:List ByteArray} {bs:List Value}
theorem cz.below(s:cz h w B r lv wr bC L kn)(q:Below wr.heap.size wr w'):cz h w B r lv w' bC L kn:=
 ⟨s.own.same q,s.map.keep (q.block _ s.map.lt),s.tu.below q,s.bi⟩
theorem oK.type(a:hP B0 b bs wr):∃c,wr.heap[b]? =some (.cells c 224 (0,0)):=by rcases a with⟨_,v,h,_⟩|⟨_,v,h,_⟩<;>exact⟨_,h⟩
theorem Ow.type{e:TypeId}{k n:Nat}{v:Value}{xs:List Value}(o:Ow wr h B e k v n xs){g:Nat}(G:v.ownBlock=some g):∃c,wr.heap[g]? =some (.cells c e (0,0)):=by
 rcases o.row with⟨h1,⟨rfl,ab⟩|⟨g',O,Y,rfl,aj,J,_⟩⟩;·simp[bW]at G
 ·simp only[bW,aC]at G;subst G;exact⟨_,J⟩
theorem cz.apart(s:cz h w B r lv wr bC L kn)(a:hP B0 b bs wr):∀k,(bC.ownBlock=some k\/k=r)->k≠b/\∀c G,wr.heap[k]?≠some (.cells c 5 G):=fun k J=>by
 obtain⟨c1,h1⟩:=oK.type a;rcases J with J|rfl
 ·obtain⟨c2,h2⟩:=s.own.type J;refine⟨fun e=> ?_,fun c G e=> ?_⟩;·subst e;rw[h1]at h2;simp at h2
  ·rw[h2]at e;simp at e
 ·have h2:=s.map;unfold aS cG at h2;refine⟨fun e=> ?_,fun c G e=> ?_⟩;·subst e;rw[h1]at h2;cases h2
  ·rw[h2]at e;cases e
theorem cz.wrote(s:cz h w B r lv wr bC L kn)(a:hP B0 b bs wr)(q:jJ B0 b wr w')(G:w.heap.size<=B0):cz h w B r lv w' bC L kn:=
 ⟨q.ow s.own (by decide) fun e=>(s.apart a b (.inl e)).1 rfl,q.map s.map fun e=>(s.apart a r (.inr rfl)).1 e,q.tu s.tu G,s.bi⟩
theorem cz.call(s:cz h w B r lv wr bC L kn)(c:cz h wr B r bC w' jl L2 nD):cz h w B r lv w' jl L2 nD:=by
 refine⟨c.own,c.map,s.tu.step c.tu fun k G=> ?_,?_⟩
 ·rcases G with G|rfl
  ·rcases s.bi with e|⟨g,e,J⟩;·exact .inl (.inl (by rw[<-e];exact G))
   ·rw[e]at G;exact .inr (by rw[<-aU G];exact J)
  ·exact .inl (.inr rfl)
 ·rcases c.bi with e|⟨g,e,J⟩;·rw[e];exact s.bi
  ·exact .inr ⟨g,e,b5 s.tu.size J⟩
theorem cz.I(s:cz h w B r lv wr bC L kn)(G:ao h w)(J:∀g,lv.ownBlock=some g->h g=none)(hr:h r=none):ao h wr:=s.tu.I G fun k e=>by
 rcases e with e|rfl;·exact J k e
 ·exact hr
theorem cz.tb{T:fq}{N:Nat}(s:cz h w B r lv wr bC L kn)(t:Tb T N w)(G:∀g,lv.ownBlock=some g->N<=g)(hr:N<=r):Tb T N wr:=t.below (s.tu.jR t.1 fun k e=>by
 rcases e with e|rfl;·exact G k e
 ·exact hr)
end
mutual
def Tree.short:Tree->Prop
 | .node _ s _ ks=>s.size<=1000000/\kJ ks
def kJ:List Tree->Prop
 |[]=>True
 |t::ts=>t.short/\kJ ts
end
theorem Tree.LA{t:Tree}(h:t.short):t.text.size<=1000000/\kJ t.kids:=by cases t;rw[Tree.short]at h;exact h
theorem s3:∀{ts:List Tree},kJ ts->∀i (G:i<ts.length),(ts[i]).short
 |_::_,h,0,_=>by rw[kJ]at h;exact h.1
 |_::ts,h,i+1,G=>by rw[kJ]at h;exact s3 h.2 i (by simpa using G)
theorem Has.heap{w:World}{b:Nat}{c:Array Value}{t:TypeId}(h:w.heap[b]? =some (.cells c t (0,0))):Has w b c:=by
 refine⟨?_,fun o=>by simp[World.cell?,h],fun o=>by simp[World.frozen?,h]⟩;rcases b7 b w.heap.size with q|q;·exact q
 ·rw[iF q]at h;cases h
structure fb(h:Hp)(w:World)(B r:Nat)(lv:Value)(b:Nat)(c:Array Value)(wr:World)(bC:Value)(L:List bq)(kn:List ByteArray)(l:List UInt8):Prop where
 s:cz h w B r lv wr bC L kn
 a:hP b b (vB l) wr
 x:wr.heap[w.heap.size]? =some (.cells c 26 (0,0))
 lt:w.heap.size<b
section
variable {h:Hp} {w wr w':World} {B r b:Nat} {lv bC jl:Value} {L L2:List bq} {kn nD:List ByteArray} {l l2:List UInt8} {c:Array Value}
theorem fb.s4(z:fb h w B r lv b c wr bC L kn l):b<wr.heap.size:=by obtain⟨c1,h1⟩:=oK.type z.a;exact(Has.heap h1).lt
theorem fb.below(z:fb h w B r lv b c wr bC L kn l)(q:Below wr.heap.size wr w'):fb h w B r lv b c w' bC L kn l:=
 ⟨z.s.below q,z.a.tu ((Tu.refl (fun _=>False) wr).below q) fun _ e=>e.elim,(q.block _ (Has.heap z.x).lt).trans z.x,z.lt⟩
theorem fb.wrote(z:fb h w B r lv b c wr bC L kn l)(q:jJ b b wr w')(G:hP b b (vB l2) w'):fb h w B r lv b c w' bC L kn l2:=
 ⟨z.s.wrote z.a q (kB z.lt),G,(q.1.block _ z.lt).trans z.x,z.lt⟩
theorem fb.call(z:fb h w B r lv b c wr bC L kn l)(q:cz h wr B r bC w' jl L2 nD):fb h w B r lv b c w' jl L2 nD l:=by
 refine⟨z.s.call q,z.a.tu q.tu (z.s.apart z.a),(q.tu.block _ (Has.heap z.x).lt fun e=> ?_).trans z.x,z.lt⟩;rcases e with e|e;·obtain⟨c2,h2⟩:=z.s.own.type e;rw[z.x]at h2;simp at h2
 ·have h2:=z.s.map;unfold aS cG at h2;rw[<-e,z.x]at h2;cases h2
theorem fb.str(z:fb h w B r lv b c wr bC L kn l)(l2:List UInt8)(G:l.length+l2.length<=100000000):Calls ai 152 #[az (some ⟨b,0,none⟩),ah ⟨l2.toArray⟩] wr fun e w'=>e= .returned (bD #[af ae (J7 ⟨l2.toArray⟩),.nilIface])/\fb h w B r lv b c w' bC L kn (l++l2):=by refine(Co b b _ ⟨l2.toArray⟩ wr z.a (by rw[J8];simp[J7];omega) (kB z.s4)).mono ?_;rintro e w' ⟨rfl,a,q⟩;refine⟨rfl,z.wrote q (.inr ?_)⟩;rw[J9];exact a
theorem fb.blank(z:fb h w B r lv b c wr bC L kn l)(G:l.length<=100000000):Calls ai 154 #[az (some ⟨b,0,none⟩),af .u8 32] wr fun e w'=>e= .returned .nilIface/\fb h w B r lv b c w' bC L kn (l++[32]):=by refine(Cp b b _ 32 wr z.a (by rw[J8];omega) (kB z.s4)).mono ?_;rintro e w' ⟨rfl,a,q⟩;refine⟨rfl,z.wrote q (.inr ?_)⟩;rw[J9];exact a
end
theorem cz.push{h:Hp}{w W w2:World}{B r:Nat}{lv bC G:Value}{L:List bq}{kn:List ByteArray}{x:bq}(s:cz h w B r lv W bC L kn){o:Obj}(Y:r<B)(O:Ow w2 h B 121 4 G (L.length+1) (L.flatMap cX++cX x))(gr:(W.alloc o).grownBy w2 bC.ownBlock)(bk:G.ownBlock=bC.ownBlock\/G.ownBlock=some (W.alloc o).heap.size):cz h w B r lv w2 G (L++[x]) kn:=by
 refine⟨by rw[cI,sv];simpa using O,s.map.keep ?_,(s.tu.alloc o).grown gr fun k e=> ?_,?_⟩;·have:=s.map.lt;rw[gr.block r (by simp;omega) (fun e=>by have:=(s.own.lt r e.symm).1;omega)];exact Below.heap_alloc _ _ _ this
 ·rcases s.bi with q|⟨g,q,J⟩;·exact .inl (.inl (by rw[<-q];exact e))
  ·rw[q]at e;exact .inr (by rw[<-aU e];exact J)
 ·rcases bk with q|q;·rw[q];exact s.bi
  ·refine .inr ⟨_,q,?_⟩;have:=s.tu.size;simp;omega
theorem qK{w:World}{g n k:Nat}{xs:List Value}(h:∀i u,xs[i]? =some u->w.cell? ⟨g,i,none⟩=some u)(J:xs.length=n*k){i:Nat}(G:i<n*k):∃u,w.cell? ⟨g,i,none⟩=some u:=
 ⟨_,h i _ (aE (by omega))⟩
theorem Cq(L A:List bq)(m n s c:Nat):((((L++[(⟨m,n,0,0⟩:bq)]++A).flatMap cX).set (L.length*4+2) (af ae s)).set (L.length*4+3) (af ae c))=(L++[(⟨m,n,s,c⟩:bq)]++A).flatMap cX:=by simp only[sv,fI];rw[ma _ _ (by rw[s5];omega),ma _ _ (by rw[s5];omega),s5,Bq,Bq];simp[cX]
theorem cz.fill{h:Hp}{w wr:World}{B r:Nat}{lv:Value}{L A:List bq}{kn:List ByteArray}{m n g len G:Nat}(s:cz h w B r lv wr (ag (some ⟨g,0,none⟩) len G) (L++[⟨m,n,0,0⟩]++A) kn)(ab:r<B)(J:len=(L++[(⟨m,n,0,0⟩:bq)]++A).length)(sz c:Nat):cz h w B r lv ((wr.setCell ⟨g,L.length*4+2,none⟩ (af ae sz)).setCell ⟨g,L.length*4+3,none⟩ (af ae c)) (ag (some ⟨g,0,none⟩) len G) (L++[⟨m,n,sz,c⟩]++A) kn:=by
 have Y:=(s.own.lt g rfl).1
 have hS:(lv.ownBlock=some g\/g=r)\/w.heap.size<=g:=by
  rcases s.bi with q|⟨g',q,O⟩;·exact .inl (.inl (by rw[<-q];rfl))
  ·exact .inr (by have:g=g':=aU q;omega)
 subst J;refine⟨?_,s.map.keep ?_,(s.tu.set (p:=⟨g,L.length*4+2,none⟩) hS _).set (p:=⟨g,L.length*4+3,none⟩) hS _,s.bi⟩;·have o:=(s.own.set (L.length*4+2) (af ae sz) (by simp;omega)).set (L.length*4+3) (af ae c) (by simp;omega);rw[Cq]at o;simpa using o
 ·rw[cH _ _ _ _ (by show r≠g;omega),cH _ _ _ _ (by show r≠g;omega)]
theorem Cr:jm 9 j8:=ww
theorem cz.known{h:Hp}{w wr:World}{B r:Nat}{lv bC:Value}{L:List bq}{kn:List ByteArray}(s:cz h w B r lv wr bC L kn)(key:ByteArray)(hf:(kn.findIdx? fun k=>decide (k=key))=none)(O:r<B):(Instr.mapUpdate 114 (.map (some r)) (ah key) (af ae (kn.length:Nat))).run ai wr= .ok () (sG wr r (cG j8 (hB (kn++[key]))))/\cz h w B r lv (sG wr r (cG j8 (hB (kn++[key])))) bC L (kn++[key])/\wr.grownBy (sG wr r (cG j8 (hB (kn++[key])))) (some r):=by obtain⟨h1,h2,G⟩:=s.map.put Cr key (af ae (kn.length:Nat)) 114 3 Br;rw[Cs kn key hf]at h1 h2 G;exact⟨h1,⟨s.own.grown G fun g J e=>by have:=(s.own.lt g J).1;have:=aU e;omega,h2,s.tu.grown G fun k e=> .inl (.inr (aU e).symm),s.bi⟩,G⟩
theorem wx:∀(ts:List Tree),ts.length<=ax ts
 |[]=>by simp
 |t::ts=>by have:=wx ts;have:=t.size_eq;rw[gR,bF];omega
theorem Ct(T:fq)(N:Nat)(n:Nat):∀(t:Tree),t.size<=n->t.short->∀(h:Hp) (w:World) (B cb r:Nat) (v lv:Value) (L:List bq) (kn:List ByteArray) (m num:Nat),ao h w->Tb T N w->N<=B->B<=w.heap.size->cb<B->r<B->N<=r->cb≠r->h r=none->Has w cb #[.map (some r)]->aP h v t->Ow w h B 121 4 lv L.length (L.flatMap cX)->aS j8 w r (hB kn)->L.length+t.size<=1000000->kn.length+t.size<=1000000->num+t.size<=1000000->Calls ai 108 #[az (some ⟨cb,0,none⟩),v,af ae m,af ae num,lv] w fun e w'=>∃bC,e= .returned (bD #[bC,af ae t.size,af ae (cS (aX T) m t num kn).2.1])/\cz h w B r lv w' bC (L++(cS (aX T) m t num kn).1) (cS (aX T) m t num kn).2.2:=by
 induction n with
 |zero=>intro t e0;have:=t.size_eq;omega
 |succ n di=>
  intro t e1 dh h w B cb r v lv L kn m num ce tb cZ d7 ea a9 c6 bJ hr dC tv ba dn e2 lk e4;have co:=aa ce;have dZ:=aa tb;have cC:=aa dC;have eI:=aa ba;have dU:=aa di;have cg:=t.LA dh;have dT:=aa cg.2;have ei:=cg.1;have ch:=t.size_eq;obtain⟨al,am,J,ck,xs,rfl,cf,eZ,eX,ed,dg,he⟩:=tv.open;have dY:=aa dg;have dP:=aa he;have cv:Hid (∀g,lv.ownBlock=some g->h g=none):=fun g a5=>ba.free g a5;have bp:Hid (∀g,lv.ownBlock=some g->B<=g/\g<w.heap.size):=fun g a5=>ba.lt g a5;have dX:Hid (cz h w B r lv w lv L kn):=⟨ba,dn,Tu.refl _ _,.inl rfl⟩
  have cl:=aa (Cu (ck:=aX T) m t num kn);have b0:Below w.heap.size w (w.alloc (.cells #[af ae t.kind,ah t.text,ag al t.leads.length am,ag J t.kids.length ck] 26)):=(aD _ _).alloc (kI _) _;have cB:=aa (gL w (.cells #[af ae t.kind,ah t.text,ag al t.leads.length am,ag J t.kids.length ck] 26));have ct:=aa (ce.below b0);have bB:=aa (dX.out.below b0);clear ce tb dC ba di dg he ed dn tv cg dh b0;generalize c9:cS (aX T) m t num kn=e5 at*;have eE:=aa c9;obtain⟨a1,a2,rfl⟩:=bB.out.own.shape;clear c9;go_in;go_wp2_with(at_builtin;go_must(refine ft wy rfl _ _ rfl (St.dN (B:=B) (ct.out.alloc _) (by simp;omega)) _ L.length (L.flatMap cX) rfl (bB.out.own.alloc _) ⟨w.heap.size+1,0,none⟩ 1 1 [af ae m,af ae num,af ae 0,af ae 0] rfl rfl (cK _ _ _ _ (by simp)) (cm _ rfl) (by omega) ?_);go_must(intro bN w2 er dp cc cQ;have O:Hid (w2.heap[w.heap.size]? =some (.cells #[af ae t.kind,ah t.text,ag al t.leads.length am,ag J t.kids.length ck] 26 (0,0))):=((cc.block w.heap.size (by simp;omega) (fun e=>by have:=(bp.out _ e.symm).2;omega)).trans ((oi _ _ (by simp)).trans cB.out));have cA:=aa (cz.push (x:=⟨m,num,0,0⟩) bB.out a9 dp cc cQ);have bT:Hid (fb h w B r (ag a1 L.length a2) w2.heap.size #[af ae t.kind,ah t.text,ag al t.leads.length am,ag J t.kids.length ck] (w2.alloc (.cells #[az none,ag none 0 0] 224)) bN (L++[⟨m,num,0,0⟩]) kn []):=⟨cA.out.below ((aD _ _).alloc (kI _) _),hP.new w2,(oi _ _ (Has.heap O.out).lt).trans O.out,(Has.heap O.out).lt⟩;have eD:=(Has.heap O.out).lt;have dw:=(Has.heap O.out).cl 0;have dA:=(Has.heap O.out).cl 1;have dB:=(Has.heap O.out).cl 3;simp only[bw,bc,List.getElem?_cons_succ]at dw dA dB;clear er dp cc cQ));have bH:Hid (∀{wr bC M q l},fb h w B r (ag a1 L.length a2) w2.heap.size #[af ae t.kind,ah t.text,ag al t.leads.length am,ag J t.kids.length ck] wr bC M q l->Tb T N wr):=fun z=>z.s.tb dZ.out (fun g a5=>b5 cZ (bp.out g a5).1) c6;have Y:Hid (∀{wr bC M q l},fb h w B r (ag a1 L.length a2) w2.heap.size #[af ae t.kind,ah t.text,ag al t.leads.length am,ag J t.kids.length ck] wr bC M q l->w.heap.size<wr.heap.size/\w2.heap.size<wr.heap.size/\wr.cell? ⟨w.heap.size,1,none⟩=some (ah t.text)/\wr.cell? ⟨w.heap.size,3,none⟩=some (ag J t.kids.length ck)):=fun z=>⟨(Has.heap z.x).lt,z.s4,(Has.heap z.x).cl 1,(Has.heap z.x).cl 3⟩
  refine(wA (bH.out bT.out) t.kind cf).mono ?_;rintro e w3 ⟨rfl,b3⟩;have bV:=aa (bT.out.below b3);obtain⟨aJ,aL,aM,aN⟩:=Y.out bV.out;clear bT b3 dw dA dB eD O cB cA bB ct;have eF:=Bs t.kind cf.1 cf.2;have eJ:(mB T t.text).length<=10000002:=by have:=Lib.quoteZ_length_le T t.text;simp only[mB,List.length_map];omega
  go_wp2_with fail;refine(bV.out.str (eQ t.kind) (by simp;omega)).mono ?_;rintro e ff ⟨rfl,dG⟩;have bX:=aa dG;obtain⟨aJ,aL,aM,aN⟩:=Y.out bX.out;clear dG bV;go_wp2_with fail;refine(bX.out.blank (by simp;omega)).mono ?_;rintro e fg ⟨rfl,dN⟩;have bE:=aa dN;obtain⟨aJ,aL,aM,aN⟩:=Y.out bE.out;clear dN bX;go_wp2_with fail;refine(Cv (bH.out bE.out) t.text ei).mono ?_;rintro e fh ⟨rfl,cN⟩;have bY:=aa (bE.out.below cN);obtain⟨aJ,aL,aM,aN⟩:=Y.out bY.out;clear cN bE;go_wp2_with fail;refine(bY.out.str (mB T t.text) (by simp;omega)).mono ?_;rintro e fi ⟨rfl,dO⟩;have bZ:=aa dO;obtain⟨aJ,aL,aM,aN⟩:=Y.out bZ.out;clear dO bY;go_wp2_with fail;clear aJ aL aM aN;generalize bL:[]++eQ t.kind++[32]++mB T t.text=aB at bZ;have eH:aB.length<=10001000:=by rw[<-bL];simp;omega
  have dR:Hid (∀cs,aX T t.kind t.text cs=⟨(aB++cs.flatMap fun(c:Nat)=>32::eQ c).toArray⟩):=fun cs=>by rw[<-bL];simp[aX,pE]
  have dW:aB≠[]:=by rw[<-bL];simp
  clear bL
  have cj:Hid (∀j,j<=t.kids.length->(bz (aX T) m (t.kids.take j) (num+1) kn).1.length=ax (t.kids.take j)/\(bz (aX T) m (t.kids.take j) (num+1) kn).2.2.length<=kn.length+ax (t.kids.take j)/\((bz (aX T) m (t.kids.take j) (num+1) kn).2.1.flatMap fun(c:Nat)=>32::eQ c).length<=j*22):=fun j hj=>by
   have q:=pF (ck:=aX T) m (t.kids.take j) (num+1) kn;refine⟨q.1,q.2.2.1,?_⟩
   have d9:∀(cs:List Nat),(∀c∈cs,c<10000000)->(cs.flatMap fun(c:Nat)=>32::eQ c).length<=cs.length*22:=by
    intro cs;induction cs with
    |nil=>intro _;simp
    |cons c cs ej=>intro hc;have h1:=hc c eu;have h2:=ej fun d hd=>hc d (cW _ hd);have eP:=Bs (c:Int) (by omega) (by omega);simp only[fH,cI,bF];omega
   have hs:ax (t.kids.take j)<=ax t.kids:=jK _ _;have:=d9 _ fun c hc=>by have:=q.2.2.2.1 c hc;omega
   rw[q.2.2.2.2,mb]at this;have:min j t.kids.length<=j:=Nat.min_le_left _ _;omega
  have KL:t.kids.length<=ax t.kids:=wx _;go_loopw[4,15,42] (fun l s i wr=>∃(j:Nat) (bC:Value),j<=t.kids.length/\bC=l/\s=af ae (ax (t.kids.take j)+1:Nat)/\i=af ae j/\fb h w B r (ag a1 L.length a2) w2.heap.size #[af ae t.kind,ah t.text,ag al t.leads.length am,ag J t.kids.length ck] wr bC (L++[⟨m,num,0,0⟩]++(bz (aX T) m (t.kids.take j) (num+1) kn).1) (bz (aX T) m (t.kids.take j) (num+1) kn).2.2 (aB++(bz (aX T) m (t.kids.take j) (num+1) kn).2.1.flatMap fun(c:Nat)=>32::eQ c)) (fun _ _ i _=>t.kids.length-(intOf i).toNat);case atStart=>exact⟨0,_,Nat.zero_le _,rfl,rfl,rfl,by simpa[bz]using bZ.out⟩
  case round=>
   obtain⟨j,bC,eb,rfl,rfl,rfl,z⟩:=hrel;have bI:=cj.out j eb;by_cases hj:j<t.kids.length
   ·have dk:=z.s.I co.out cv.out hr;obtain⟨bk,ok,d4,d6,d3,d5,rfl,fj,d0,eM,eN,eO,ey⟩:=j9 dY.out dP.out dk j hj;have st:=eY t.kids j hj;have e6:=jK t.kids (j+1);have ep:=s3 dT.out j hj;have b9:=cj.out (j+1) (by omega);have bG:Hid (bz (aX T) m (t.kids.take (j+1)) (num+1) kn=((bz (aX T) m (t.kids.take j) (num+1) kn).1++(cS (aX T) m t.kids[j] (num+1+ax (t.kids.take j)) (bz (aX T) m (t.kids.take j) (num+1) kn).2.2).1,(bz (aX T) m (t.kids.take j) (num+1) kn).2.1++[(cS (aX T) m t.kids[j] (num+1+ax (t.kids.take j)) (bz (aX T) m (t.kids.take j) (num+1) kn).2.2).2.1],(cS (aX T) m t.kids[j] (num+1+ax (t.kids.take j)) (bz (aX T) m (t.kids.take j) (num+1) kn).2.2).2.2)):=by unfold Hid;rw[List.take_succ_eq_append_getElem hj,s6]
    have cn:=wB (ck:=aX T) m t.kids[j] (num+1+ax (t.kids.take j)) (bz (aX T) m (t.kids.take j) (num+1) kn).2.2;obtain⟨bv,d8⟩:∃q,q=num+1+ax (t.kids.take j):=⟨_,rfl⟩
    rw[<-d8]at cn bG;rw[bG.out]at b9;simp only at b9;have e7:ax (t.kids.take (j+1))=ax (t.kids.take j)+t.kids[j].size:=st;have w2:ae.wrap (((ax (t.kids.take j)+1:Nat):Int)+(t.kids[j].size:Int))=((ax (t.kids.take (j+1))+1:Nat):Int):=by rw[bA (by omega)];omega
    generalize t.kids[j]=aZ at*;generalize bz (aX T) m (t.kids.take j) (num+1) kn=A at*;have w1:ae.wrap ((num:Int)+((ax (t.kids.take j)+1:Nat):Int))=(bv:Int):=by rw[bA (by omega)];omega
    obtain⟨R,hR⟩:∃R,R=cS (aX T) m aZ bv A.2.2:=⟨_,rfl⟩
    rw[<-hR]at cn bG b9;have ab:=aa (z.below ((aD wr.heap.size wr).alloc (kI _) (.cells #[af ae aZ.kind,ah aZ.text,ag d4 aZ.leads.length d6,ag d3 aZ.kids.length d5] 26)));have cu:=aa (ab.out.s.I co.out cv.out hr)
    have cD:=aa (cC.out.tu ab.out.s.tu fun e=>by
     rcases e with e|e;·have:=(bp.out _ e).1;omega
     ·exact bJ e)
    have eG:(L++[(⟨m,num,0,0⟩:bq)]++A.1).length=L.length+1+ax (t.kids.take j):=by simp[bI.1];omega
    have bm:=aa (dU.out aZ (by omega) ep h _ B cb r _ bC (L++[⟨m,num,0,0⟩]++A.1) A.2.2 m bv cu.out (bH.out ab.out) cZ (b5 d7 ab.out.s.tu.size) ea a9 c6 bJ hr cD.out ey ab.out.s.own ab.out.s.map (by omega) (by omega) (by omega));rw[<-hR]at bm;clear hR;rw[show((bv:Nat):Int)=(num:Int)+((ax (t.kids.take j):Int)+1)from by omega]at bm;have du:(0:Int)<=(j:Int):=by omega
    have bN:(j:Int)<(t.kids.length:Int):=by omega
    have eK:=jK t.kids j;clear z dk;go_wp2_with fail;refine bm.out.mono ?_;rintro e e8 ⟨jl,rfl,cU⟩;have G:=aa (ab.out.call cU);clear cU bm ab cu cD;obtain⟨aJ,aL,aM,aN⟩:=Y.out G.out;have eW:(aB++A.2.1.flatMap fun(c:Nat)=>32::eQ c).length<=90000000:=by rw[cI];omega
    have cd:aG (R.2.1:Int):=by unfold aG;omega
    have IR:=Bs (R.2.1:Int) cd.1 cd.2;go_wp2_with fail;refine(G.out.blank (by omega)).mono ?_;rintro e e9 ⟨rfl,dD⟩;have aj:=aa dD;obtain⟨aJ,aL,aM,aN⟩:=Y.out aj.out;clear dD G;go_wp2_with fail;refine(wA (bH.out aj.out) (R.2.1:Int) cd).mono ?_;rintro e fc ⟨rfl,cM⟩;have ak:=aa (aj.out.below cM);obtain⟨aJ,aL,aM,aN⟩:=Y.out ak.out;clear cM aj;go_wp2_with fail;refine(ak.out.str (eQ (R.2.1:Int)) (by rw[cI,List.length_singleton];omega)).mono ?_;rintro e fd ⟨rfl,dF⟩;have d2:=aa dF;clear dF ak;go_wp2_with fail;go_roundw;case rel=>exact⟨j+1,jl,by omega,rfl,congrArg (af ae) (by omega),congrArg (af ae) (by omega),by rw[bG.out];simpa[fI,sv]using d2.out⟩
    case measure=>simp[intOf];omega
   ·obtain rfl:j=t.kids.length:=by omega
    rw[List.take_length]at z bI;have cq:Hid (aX T t.kind t.text (bz (aX T) m t.kids (num+1) kn).2.1=⟨(aB++(bz (aX T) m t.kids (num+1) kn).2.1.flatMap fun(c:Nat)=>32::eQ c).toArray⟩):=dR.out _;have bO:=cl.out;rw[cq.out]at bO;have c8:(aB++(bz (aX T) m t.kids (num+1) kn).2.1.flatMap fun(c:Nat)=>32::eQ c)≠[]:=by simp[dW]
    generalize(aB++(bz (aX T) m t.kids (num+1) kn).2.1.flatMap fun(c:Nat)=>32::eQ c)=l at*;generalize bz (aX T) m t.kids (num+1) kn=A at*;have aT:=aa bO;have Z:=aa z
    have aY:Hid (∀{wr bC M q l},fb h w B r (ag a1 L.length a2) w2.heap.size #[af ae t.kind,ah t.text,ag al t.leads.length am,ag J t.kids.length ck] wr bC M q l->Has wr cb #[.map (some r)]):=fun z=>cC.out.tu z.s.tu fun e=>by
     rcases e with e|e;·have:=(bp.out _ e).1;omega
     ·exact bJ e
    have el:=(aY.out z).cl 0;have fr:=(aY.out z).lt;simp only[bw,bc]at el;have ek:Hid (jm 9 j8):=ww;clear bO cq z cl;go_wp2_with fail;go_region_held3(fun w'=>w'.cell? ⟨cb,0,none⟩=some (.map (some r))) (first|(go_keep;done)|exact dm) (first|(go_at_call 156;refine(wC _ _ l _ (Z.out.below (aD _ _).drew).a c8).mono ?_;rintro e dv ⟨rfl,cE,dr⟩;have G:=aa ((Z.out.below (aD _ _).drew).wrote dr cE);have dm:=(aY.out G.out).cl 0;simp only[bw,bc]at dm;have bS:=(G.out.s.map.look ek.out ⟨l.toArray⟩ 114 3 (af ae 0) Br (fun W=>by kernel_rfl)).2;rw[Cw]at bS;simp only[j8]at bS;clear cE dr));have fu:=(aY.out G.out).lt;have cw:=fun ty=>G.out.s.map.qL Br ty;rw[Cx]at cw;have aV:=G.out.s.own;obtain⟨eL,cV,rfl⟩:=aV.shape;have e3:(L++[(⟨m,num,0,0⟩:bq)]++A.1).length=L.length+1+A.1.length:=by simp;omega
    clear bS;cases hf:A.2.2.findIdx? (fun k=>decide (k=⟨l.toArray⟩))with
    |some q=>
     have a8:gw A.2.2 ⟨l.toArray⟩=(q,A.2.2):=by unfold gw;rw[hf]
     have a4:(A.2.2.any fun k=>decide (k=⟨l.toArray⟩))=true:=by rw[<-Ka,hf];rfl
     simp only[Option.map_some,Option.getD_some,a4];rw[a8]at aT;obtain⟨a3,rfl,-,eC,-,aO,aQ⟩:=aV.cell (by omega);have bd:∃u,dv.cell? ⟨a3,L.length*4+2,none⟩=some u:=qK aO aV.len (by omega);have bg:∃u,dv.cell? ⟨a3,L.length*4+3,none⟩=some u:=qK aO aV.len (by omega);obtain⟨ez,bd⟩:=bd;obtain⟨eA,bg⟩:=bg;have en:=aQ (L.length*4+2);have eo:=aQ (L.length*4+3);have bR:=aa (G.out.s.fill a9 rfl (ax t.kids+1) q);have du:(0:Int)<=(L.length:Int):=by omega
     have bN:(L.length:Int)<((L++[(⟨m,num,0,0⟩:bq)]++A.1).length:Int):=by omega
     clear hf a4 a8 aO aQ aV;go_wp2_with fail;refine aF (v:=bD #[ag (some ⟨a3,0,none⟩) (L++[(⟨m,num,0,0⟩:bq)]++A.1).length cV,af ae ((ax t.kids:Int)+1),af ae q]) (by simp[results,Kb,go_sem];exact bI.1.symm) rfl ?_;refine⟨_,by rw[aT.out],?_⟩;rw[aT.out,ch];show cz h w B r _ _ _ (L++((⟨m,num,ax t.kids+1,q⟩:bq)::A.1)) A.2.2;rw[show L++((⟨m,num,ax t.kids+1,q⟩:bq)::A.1)=L++[⟨m,num,ax t.kids+1,q⟩]++A.1 from by simp];exact bR.out
    |none=>
     have a8:gw A.2.2 ⟨l.toArray⟩=(A.2.2.length,A.2.2++[⟨l.toArray⟩]):=by unfold gw;rw[hf]
     have a4:(A.2.2.any fun k=>decide (k=⟨l.toArray⟩))=false:=by rw[<-Ka,hf];rfl
     simp only[Option.map_none,Option.getD_none,a4];rw[a8]at aT;have ec:=c8;have dQ:=aa hf;clear hf a4 a8 aV;go_wp2_with fail;go_region_held3(fun w'=>w'.cell? ⟨cb,0,none⟩=some (.map (some r))) (first|(go_keep;done)|exact ci|exact em) (first|(go_at_call 156;refine(wC _ _ l _ (G.out.below (aD _ _).drew).a ec).mono ?_;rintro e eB ⟨rfl,cF,dt⟩;have aj:=aa ((G.out.below (aD _ _).drew).wrote dt cF);have ci:=(aY.out aj.out).cl 0;simp only[bw,bc]at ci;obtain⟨d1,dE,cY⟩:=aj.out.s.known ⟨l.toArray⟩ dQ.out a9;have ak:=aa dE;have em:=(World.cell?_of_block (a:=⟨cb,0,none⟩) (cY.block cb (aY.out aj.out).lt (fun e=>bJ (aU e)))).trans ci;clear cF dt dE cY));obtain⟨a3,rfl,-,eC,-,aO,aQ⟩:=ak.out.own.cell (by omega);have bd:=qK aO ak.out.own.len (i:=L.length*4+2) (by omega);have bg:=qK aO ak.out.own.len (i:=L.length*4+3) (by omega);obtain⟨ez,bd⟩:=bd;obtain⟨eA,bg⟩:=bg;have en:=aQ (L.length*4+2);have eo:=aQ (L.length*4+3);have bR:=aa (ak.out.fill a9 rfl (ax t.kids+1) A.2.2.length);have du:(0:Int)<=(L.length:Int):=by omega
     have bN:(L.length:Int)<((L++[(⟨m,num,0,0⟩:bq)]++A.1).length:Int):=by omega
     clear aO aQ d1 cw;generalize sG eB r (cG j8 (hB (A.2.2++[⟨l.toArray⟩])))=fe at*;go_wp2_with fail;refine aF (v:=bD #[ag (some ⟨a3,0,none⟩) (L++[(⟨m,num,0,0⟩:bq)]++A.1).length cV,af ae ((ax t.kids:Int)+1),af ae A.2.2.length]) (by simp[results,Kb,go_sem];exact bI.1.symm) rfl ?_;refine⟨_,by rw[aT.out,ch];rfl,?_⟩;rw[aT.out,ch];show cz h w B r _ _ _ (L++((⟨m,num,ax t.kids+1,A.2.2.length⟩:bq)::A.1)) (A.2.2++[⟨l.toArray⟩]);rw[show L++((⟨m,num,ax t.kids+1,A.2.2.length⟩:bq)::A.1)=L++[⟨m,num,ax t.kids+1,A.2.2.length⟩]++A.1 from by simp];exact bR.out
section
variable {x y:List aB} {k:Int×Int->List (Int×Int)}
theorem ze(hx:WF x)(hy:WF y)(l:List (Int×Int)):KA x y (ff x y (aQ x y l)):=⟨rp hx hy l,fun _ hp=>xO hx hy l hp⟩
theorem zf:∀(a b:List Int),a.Pairwise (·<·)->b.Pairwise (·<·)->(a.zip b).Pairwise fun p q=>p.1<q.1/\p.2<q.2
 |[],b,_,_=>by simp
 |u::a,[],_,_=>by simp
 |u::a,v::b,h1,h2=>by rw[fJ]at h1 h2;rw[List.zip_cons_cons,fJ];refine⟨fun r hr=> ?_,zf a b h1.2 h2.2⟩;have:=List.of_mem_zip hr;exact⟨h1.1 _ this.1,h2.1 _ this.2⟩
theorem zg(hx:WF x)(hy:WF y):KA x y (jQ x y):=
 ⟨tY hx hy,fun p hp=>vM _ (zf _ _ (hx.gU p.1.toNat _ (gV hp.1 hp.2.1)) (hy.gU p.2.toNat _ (gV hp.2.2.1 hp.2.2.2)))⟩
theorem Ge{p q:Int×Int}(h:q∈kp x y p):(nd x q.1).kind=(nd y q.2).kind:=by unfold kp fA at h;obtain⟨c,_,h⟩:=List.mem_flatMap.1 h;obtain⟨d,hd,rfl⟩:=b6.1 h;simpa using(lz.1 hd).2
theorem Gf(G:PO x)(J:PO y)(l:List (Int×Int)):cq (pX x y l)=c8 (ff x y (aQ x y l)) x.length (0,0):=by obtain⟨r,h1,h2⟩:=y7 (rp G.wf J.wf l) G.wf J.wf;unfold pX;rw[h1];exact yT (ze G.wf J.wf l) G J h2
theorem Gg(G:PO x)(J:PO y):cq (oW x y)=c8 (jQ x y) x.length (0,0):=by obtain⟨r,h1,h2⟩:=y7 (tY G.wf J.wf) G.wf J.wf;unfold oW;rw[h1];exact yT (zg G.wf J.wf) G J h2
theorem Gh{l:List (Int×Int)}(C:lj x y l):∃r,l=(0,0)::r:=by
 have G:=C.root;cases hl:l with
 |nil=>rw[hl]at G;simp at G
 |cons p r=>
  have hs:=C.y9;have O:=C.inr p (by rw[hl];simp);rw[hl]at hs G;rcases b8.1 G with G|G;·exact⟨r,by rw[G]⟩
  ·have J:=(fJ.1 hs).1 _ G;unfold bZ at O;unfold fV at J;simp only at J;omega
theorem Gi{l:List (Int×Int)}(C:lj x y l):((aQ x y l).getD 0 default).cost=bG (aQ x y l) (0,0):=by obtain⟨r,rfl⟩:=Gh C;rw[aQ,ra];exact(if_pos (show((0:Int),(0:Int))=((hT x y (0,0) (bG (aQ x y r))).a,(hT x y (0,0) (bG (aQ x y r))).b)from rfl)).symm
theorem Gj(G:PO x)(J:PO y)(nx:ct x=true)(ab:ct y=true)(O:(nd x 0).kind=(nd y 0).kind){l:List (Int×Int)}(C:lj x y l):dP x y (iO x y l).aR=some (iO x y l).cost:=by unfold iO;simp only;rw[Gf G J,yX (ze G.wf J.wf l) G J (fun p _ q Y=>Ge (rm l Y)) O,Gi C,zd G J nx ab C x.length (0,0) C.root (by simp),aC];have h1:(nd x 0).size=(x.length:Int):=G.wf.kS;have h2:(nd y 0).size=(y.length:Int):=J.wf.kS;simp only;omega
theorem uH{l:List (Int×Int)}(h:c6 l)(G:∀p∈l,bZ x y p):l.length<=x.length/\l.length<=y.length:=by
 constructor
 ·have:=q5 x.length (l.map fun p=>p.1.toNat) (by
   rw[ph,mo];refine pj ?_ h;intro a b ha J O e;have:=G a ha;have:=G b J;unfold bZ at*;omega) (by
   intro n hn;obtain⟨p,hp,rfl⟩:=b6.1 hn;have:=G p hp;unfold bZ at this;omega)
  simpa using this
 ·have:=q5 y.length (l.map fun p=>p.2.toNat) (by
   rw[ph,mo];refine pj ?_ h;intro a b ha J O e;have:=G a ha;have:=G b J;unfold bZ at*;omega) (by
   intro n hn;obtain⟨p,hp,rfl⟩:=b6.1 hn;have:=G p hp;unfold bZ at this;omega)
  simpa using this
theorem qe{M:List (Int×Int)}{c:Int}(h:dP x y M=some c):c=x.length+y.length+eO x y M/\c6 M/\∀p∈M,bZ x y p:=by
 obtain⟨h1,h2,G⟩:=tU x y M [] _ c h (by simp[c6]);simp only[ji]at h2 G;refine⟨h1,h2,fun p hp=> ?_⟩;obtain⟨a,b,rfl⟩:=List.append_of_mem hp;have ok:=G a p b rfl
 have J:0<=p.1/\0<=p.2:=by
  cases a with
  |nil=>have:p=(0,0):=ok.2.2.2.2.2.1.2 rfl;subst this;simp
  |cons q a=>have O:=G [] q (a++p::b) rfl;have:q=(0,0):=O.2.2.2.2.2.1.2 rfl;subst this;have:=(fJ.1 h2).1 p (by simp);simp only at this;omega
 exact⟨J.1,ok.2.2.1,J.2,ok.2.2.2.1⟩
theorem uI{M:List (Int×Int)}{c:Int}(h:dP x y M=some c):(x.length:Int)-y.length<=c/\(y.length:Int)-x.length<=c/\0<=c:=by obtain⟨h1,h2,G⟩:=qe h;have:=uH h2 G;have:=qd x y M;omega
theorem Gk(G:PO x)(J:PO y)(O:(nd x 0).kind=(nd y 0).kind):dP x y (dr x y).aR=some (dr x y).cost:=by have h:=yX (zg G.wf J.wf) G J (fun p _ q Y=>by simpa using(lz.1 Y).2) O;rw[<-Gg G J]at h;unfold dr;simp only;rw[h];rfl
theorem zh(J:PO x)(O:PO y)(budget:Int):pU x y (bE x y budget):=by
 unfold bE;by_cases G:(nd x 0).kind=(nd y 0).kind
 ·rw[if_pos G];have Y:pU x y (dr x y):=by have hp:=Gk J O G;refine⟨hp,?_,fun h=>by simp[dr]at h⟩;have:=uI hp;show max _ _<=_;omega
  by_cases hn:ct x=true/\ct y=true
  ·rw[if_pos hn];cases hc:fB x y budget with
   |none=>exact Y
   |some l=>have C:=Gb J.wf O.wf hc;refine⟨Gj J O hn.1 hn.2 G C,Int.le_refl _,fun _=>⟨rfl,?_⟩⟩;rw[if_pos G];refine⟨?_,Gd J.wf O.wf hn.1 hn.2 C,rfl⟩;show(fB x y (aQ x y (cq l)).length).map cq=some ((aQ x y (cq l)).map fun e=>(e.a,e.b));rw[pV,xQ,Ga J.wf O.wf hc,tV];rfl
  ·rw[if_neg hn];exact Y
 ·rw[if_neg G];refine⟨rfl,Int.le_refl _,fun _=>⟨rfl,?_⟩⟩;rw[if_neg G];exact⟨rfl,rfl⟩
theorem qf(G:PO x)(J:PO y)(budget:Int):dP x y (bE x y budget).aR=some (bE x y budget).cost:=(zh G J budget).1
theorem uJ(G:PO x)(J:PO y)(nx:ct x=true)(Y:ct y=true)(budget:Int)(aj:((x.length*y.length:Nat):Int)<=budget):(bE x y budget).gT=true/\(bE x y budget).a7=(bE x y budget).cost:=by
 unfold bE;by_cases O:(nd x 0).kind=(nd y 0).kind
 ·rw[if_pos O,if_pos ⟨nx,Y⟩];have hp:0<x.length*y.length:=Nat.mul_pos G.wf.pos J.wf.pos;cases hc:fB x y budget with
  |some l=>exact⟨rfl,rfl⟩
  |none=>
   exfalso;unfold fB at hc;rw[if_neg (by omega)]at hc;rcases q6 (q7 G.wf J.wf) budget.toNat (budget.toNat+1) [(0,0)] 0 (oS G.wf.pos J.wf.pos) (by simp;omega) (by omega)with⟨r,h1,_,_⟩|⟨_,r,j,h2,ab⟩;·rw[hc]at h1;cases h1
   ·have:=h2.len;omega
 ·rw[if_neg O];exact⟨rfl,rfl⟩
theorem zi(G:PO x)(J:PO y)(nx:ct x=true)(Y:ct y=true)(budget:Int)(O:((x.length*y.length:Nat):Int)<=budget){M:List (Int×Int)}{c:Int}(h:dP x y M=some c):(bE x y budget).cost<=c:=
 EE G.wf J.wf (zh G J budget) (uJ G J nx Y budget O).1 h
theorem Md(G:PO x)(J:PO y)(budget b2:Int):(bE x y b2).a7<=(bE x y budget).cost:=by
 cases hp:(bE x y b2).gT with
 |true=>have h:=(zh G J b2).2.2 hp;rw[h.1];exact EE G.wf J.wf (zh G J b2) hp (qf G J budget)
 |false=>
  have h:(bE x y b2)=dr x y:=by
   unfold bE at hp⊢;split
   ·rename_i O;rw[if_pos O]at hp;split
    ·rename_i hn;rw[if_pos hn]at hp;cases hc:fB x y b2 with
     |none=>rfl
     |some l=>rw[hc]at hp;simp[iO]at hp
    ·rfl
   ·rename_i O;rw[if_neg O]at hp;simp at hp
  rw[h];have:=uI (qf G J budget);show max _ _<=_;omega
end
def dT(n:Nat):List (Int×Int):=(List.range n).map fun(i:Nat)=>((i:Int),(i:Int))
theorem uK{l:List (Int×Int)}(h:c6 l)(J:∀p∈l,0<=p.1/\0<=p.2):∀(i:Nat) (G:i<l.length),(i:Int)<=l[i].1/\(i:Int)<=l[i].2
 |0,G=>by have:=J l[0] (aK G);omega
 |i+1,G=>by have h1:=uK h J i (by omega);have h2:=K3.1 h i (i+1) (by omega) G (by omega);omega
theorem uL{l:List (Int×Int)}{n:Nat}(h:c6 l)(J:∀p∈l,p.1<n/\p.2<n):∀(d i:Nat) (G:i<l.length),d+i+1=l.length->l[i].1+(d:Int)+1<=n/\l[i].2+(d:Int)+1<=n
 |0,i,G,_=>by have:=J l[i] (aK G);omega
 |d+1,i,G,e=>by have h1:=uL h J d (i+1) (by omega) (by omega);have h2:=K3.1 h i (i+1) G (by omega) (by omega);omega
def jx:List UInt8->Option (List UInt8)
 |[]=>none
 |c::r=>if c=92 then(match r with|[]=>none|_::r=>jx r)else if c=34 then some r else jx r
theorem GL(z:UInt8)(r:List UInt8):jx (92::z::r)=jx r:=by simp[jx]
theorem GM(r:List UInt8):jx (34::r)=some r:=by unfold jx;rw[if_neg (by decide),if_pos rfl]
theorem GN(c:UInt8)(r:List UInt8)(h1:c≠92)(h2:c≠34):jx (c::r)=jx r:=by rw[jx.eq_def];simp only;rw[if_neg h1,if_neg h2]
def u8(n:Int):UInt8:=UInt8.ofNat n.toNat
def bT(l:List Int):Prop:=∀r,jx (l.map u8++r)=jx r
def Safe(z:Int):Prop:=0<=z/\z<=255/\z≠34/\z≠92
theorem zC{z:Int}{n:Nat}(G:0<=z)(h1:z<=255)(hn:n<256)(h:z≠n):u8 z≠UInt8.ofNat n:=by unfold u8;intro e;have:=congrArg UInt8.toNat e;simp only[sR]at this;omega
theorem bT.nil:bT []:=fun _=>rfl
theorem bT.safe{z:Int}(h:Safe z){l:List Int}(G:bT l):bT (z::l):=fun r=>by have h1:u8 z≠92:=zC (n:=92) h.1 h.2.1 (by omega) h.2.2.2;have h2:u8 z≠34:=zC (n:=34) h.1 h.2.1 (by omega) h.2.2.1;rw[cR,GP,GN _ _ h1 h2];exact G r
theorem bT.jy(z:Int){l:List Int}(G:bT l):bT (92::z::l):=fun r=>by rw[cR,cR,GP,GP];exact(GL _ _).trans (G r)
theorem bT.append{a b:List Int}(ha:bT a)(G:bT b):bT (a++b):=fun r=>by rw[gO,fI,ha,G]
theorem bT.all{l:List Int}(h:∀z∈l,Safe z):bT l:=by
 induction l with
 |nil=>exact bT.nil
 |cons a l G=>exact bT.safe (h a eu) (G fun z hz=>h z (cW _ hz))
theorem qi{x:Nat}(h:x<16):Safe (Lib.hexDigit x):=by unfold Lib.hexDigit Safe;split<;>omega
theorem uU(r n:Nat):bT (Lib.hexDigits r n):=by
 induction n with
 |zero=>exact bT.nil
 |succ n G=>rw[Lib.hexDigits];exact bT.safe (qi (Cc _ (by omega))) G
theorem GO{r:Int}(h1:r≠34)(h2:r≠92):bT (Lib.encodeRuneZ r):=by
 apply bT.all;unfold Lib.encodeRuneZ Safe;intro z hz;split at hz;·simp at hz;omega
 split at hz;·simp at hz;omega
 split at hz;·simp at hz;omega
 split at hz;·simp at hz;omega
 ·simp at hz;omega
theorem GQ(T:fq){r:Int}(_h0:0<=r):bT (Lib.escRune T r):=by
 unfold Lib.escRune;by_cases G:r=34\/r=92;·rw[if_pos G];exact bT.jy _ bT.nil
 rw[if_neg G];by_cases c1:Lib.isPrintR T r=true;·rw[if_pos c1];exact GO (fun e=>G (.inl e)) fun e=>G (.inr e)
 rw[if_neg c1];by_cases c2:r=7;·rw[if_pos c2];exact bT.jy _ bT.nil
 rw[if_neg c2];by_cases c3:r=8;·rw[if_pos c3];exact bT.jy _ bT.nil
 rw[if_neg c3];by_cases c4:r=12;·rw[if_pos c4];exact bT.jy _ bT.nil
 rw[if_neg c4];by_cases c5:r=10;·rw[if_pos c5];exact bT.jy _ bT.nil
 rw[if_neg c5];by_cases Y:r=13;·rw[if_pos Y];exact bT.jy _ bT.nil
 rw[if_neg Y];by_cases ab:r=9;·rw[if_pos ab];exact bT.jy _ bT.nil
 rw[if_neg ab];by_cases aj:r=11;·rw[if_pos aj];exact bT.jy _ bT.nil
 rw[if_neg aj];by_cases ak:r<32\/r=127;·rw[if_pos ak];exact bT.jy _ (bT.safe (qi (by omega)) (bT.safe (qi (Cc _ (by omega))) bT.nil))
 rw[if_neg ak];by_cases J:Lib.validRune r=false;·rw[if_pos J];exact bT.jy _ (uU _ _)
 rw[if_neg J];by_cases O:r<65536;·rw[if_pos O];exact bT.jy _ (uU _ _)
 rw[if_neg O];exact bT.jy _ (uU _ _)
theorem step_skip(T:fq)(s:ByteArray):bT (Lib.quoteStep T s):=by
 unfold Lib.quoteStep;split;·have:=UInt8.toNat_lt (s.get! 0);exact bT.jy _ (bT.safe (qi (by omega)) (bT.safe (qi (Cc _ (by omega))) bT.nil))
 ·exact GQ T (by omega)
theorem zD(T:fq):∀(f:Nat) (s:ByteArray),bT (Cd T f s)
 |0,_=>bT.nil
 |f+1,s=>by
  rw[Cd];split;·exact(step_skip T s).append (zD T f _)
  ·exact bT.nil
theorem zE(T:fq)(s:ByteArray)(r:List UInt8):∃q,mB T s++r=34::q/\jx q=some r:=by
 refine⟨(Cd T s.size s).map u8++(34::r),?_,?_⟩;·unfold mB Lib.quoteZ;simp only[cR,gO,List.map_nil,GP,fI,ji];rfl
 ·rw[zD T _ _ (34::r),GM]
theorem uV(u:Nat):∀b∈pz u,48<=b.toNat/\b.toNat<=57:=by
 induction u using KT with
 |ind u J=>
  intro b G;rw[pz]at G;split at G;·have:=eR.1 G;subst this;rw[sR];omega
  ·rcases xm.1 G with G|G;·exact J (u/10) (by omega) b G
   ·have:=eR.1 G;subst this;rw[sR];omega
theorem zF(u:Nat):(pz u).foldl (fun a b=>a*10+(b.toNat-48)) 0=u:=by
 induction u using KT with
 |ind u G=>
  rw[pz];split;·rw[dK,fk,sR];omega
  ·rw[List.foldl_append,G (u/10) (by omega)];rw[dK,fk,sR];omega
theorem zG{u v:Nat}(h:pz u=pz v):u=v:=by rw[<-zF u,h,zF]
theorem rV(n:Int):∀b∈eQ n,b≠32:=by
 intro b G e;subst e;unfold eQ at G;split at G
 ·rcases b8.1 G with h|h;·cases h
  ·exact absurd (uV _ _ h).1 (by decide)
 ·exact absurd (uV _ _ G).1 (by decide)
theorem zH:∀(u:Nat) (r:List UInt8),45::r≠pz u:=fun u r e=>by have:=uV u 45 (by rw[<-e];exact eu);exact absurd this.1 (by decide)
theorem zI{a b:Int}(h:eQ a=eQ b):a=b:=by
 unfold eQ at h;split at h<;>split at h;·have:=zG (pA h).2;omega
 ·exact absurd h (zH _ _)
 ·exact absurd h.symm (zH _ _)
 ·have:=zG h;omega
theorem zJ{a b x y:List UInt8}(ha:∀c∈a,c≠32)(G:∀c∈b,c≠32)(hx:x=[]\/∃r,x=32::r)(hy:y=[]\/∃r,y=32::r)(h:a++x=b++y):a=b/\x=y:=by
 induction a generalizing b with
 |nil=>
  cases b with
  |nil=>exact⟨rfl,h⟩
  |cons c b=>
   rw[ji]at h;rcases hx with rfl|⟨r,rfl⟩;·cases h
   ·exact absurd (pA h).1.symm (G c eu)
 |cons d a Y=>
  cases b with
  |nil=>
   rw[ji]at h;rcases hy with rfl|⟨r,rfl⟩;·cases h
   ·exact absurd (pA h).1 (ha d eu)
  |cons c b=>obtain⟨h1,h2⟩:=pA h;obtain⟨J,O⟩:=Y (fun c hc=>ha c (cW _ hc)) (fun c hc=>G c (cW _ hc)) h2;exact⟨by rw[h1,J],O⟩
theorem zK(cs:List Nat):(cs.flatMap fun(c:Nat)=>32::eQ c)=[]\/∃r,(cs.flatMap fun(c:Nat)=>32::eQ c)=32::r:=by
 cases cs with
 |nil=>exact .inl rfl
 |cons a l=>exact .inr ⟨_,by rw[fH];rfl⟩
theorem zL:∀(cs ds:List Nat),(cs.flatMap fun(c:Nat)=>32::eQ c)=(ds.flatMap fun(c:Nat)=>32::eQ c)->cs=ds
 |[],[],_=>rfl
 |[],d::ds,h=>by rw[fH]at h;cases h
 |c::cs,[],h=>by rw[fH]at h;cases h
 |c::cs,d::ds,h=>by rw[fH,fH,GP,GP]at h;obtain⟨G,J⟩:=zJ (rV _) (rV _) (zK _) (zK _) (pA h).2;have:=zI G;rw[zL cs ds J];congr 1;omega
theorem GR(T:fq){k k':Int}{s s':ByteArray}{cs G:List Nat}(h:pE T k s cs=pE T k' s' G):k=k'/\cs=G:=by
 unfold pE at h;obtain⟨J,O⟩:=zJ (rV _) (rV _) (.inr ⟨_,rfl⟩) (.inr ⟨_,rfl⟩) h;refine⟨zI J,zL _ _ ?_⟩;have Y:=(pA O).2;obtain⟨q,h1,h2⟩:=zE T s (cs.flatMap fun(c:Nat)=>32::eQ c);obtain⟨q',aj,ak⟩:=zE T s' (G.flatMap fun(c:Nat)=>32::eQ c);have ab:34::q=34::q':=by rw[<-h1,<-aj];exact Y
 have:=(pA ab).2;rw[this,ak]at h2;exact(aU h2).symm
section
variable {ck:Int->ByteArray->List Nat->ByteArray}
mutual
theorem GU{m:Nat}:∀(t:Tree) (n:Nat) (kn:List ByteArray),∀x∈(cS ck m t n kn).1,x.module=m
 | .node k s l G,n,kn,x,hx=>by
  rw[cS]at hx;rcases b8.1 hx with rfl|hx;·rfl
  ·exact uW G (n+1) kn x hx
theorem uW{m:Nat}:∀(ts:List Tree) (n:Nat) (kn:List ByteArray),∀x∈(bz ck m ts n kn).1,x.module=m
 |[],n,kn,x,hx=>by rw[bz]at hx;cases hx
 |t::ts,n,kn,x,hx=>by
  rw[bz]at hx;rcases xm.1 hx with hx|hx;·exact GU t n kn x hx
  ·exact uW ts _ _ x hx
end
end
def nY(ck:Int->ByteArray->List Nat->ByteArray):Prop:=∀⦃k k' s s' cs cs'⦄,ck k s cs=ck k' s' cs'->k=k'/\cs=cs'
section
variable (ck:Int->ByteArray->List Nat->ByteArray)
mutual
def dU(kn:List ByteArray):Tree->Nat->Prop
 | .node k s _ ks,c=>∃cs,kn[c]? =some (ck k s cs)/\(∀d∈cs,d<c)/\fY kn ks cs
def fY(kn:List ByteArray):List Tree->List Nat->Prop
 |[],cs=>cs=[]
 |t::ts,cs=>∃d ds,cs=d::ds/\dU kn t d/\fY kn ts ds
end
def ln(kn:List ByteArray):Prop:=∀i (hi:i<kn.length),∃k s cs,kn[i]=ck k s cs/\∀d∈cs,d<i
end
mutual
def iZ:Tree->List Int
 | .node k _ _ ks=>k::ja ks
def ja:List Tree->List Int
 |[]=>[]
 |t::ts=>iZ t++ja ts
end
theorem qA(t:Tree):iZ t=t.kind::ja t.kids:=by cases t;rw[iZ];rfl
mutual
theorem lp:∀t:Tree,(iZ t).length=t.size
 | .node k s l G=>by rw[iZ,Tree.size,bF,zM G]
theorem zM:∀ts:List Tree,(ja ts).length=ax ts
 |[]=>by rw[ja,ax];rfl
 |t::ts=>by rw[ja,ax,cI,lp t,zM ts]
end
section
variable {ck:Int->ByteArray->List Nat->ByteArray}
mutual
theorem dU.mono{kn G:List ByteArray}(h:kn<+:G):∀(t:Tree) (c:Nat),dU ck kn t c->dU ck G t c
 | .node k s l O,c,q=>by
  rw[dU]at q⊢;obtain⟨cs,h1,h2,J⟩:=q;refine⟨cs,?_,h2,fY.mono h O cs J⟩;obtain⟨r,rfl⟩:=h
  have hc:c<kn.length:=by
   rcases b7 c kn.length with q|q;·exact q
   ·rw[gM q]at h1;cases h1
  rw[List.getElem?_append_left hc];exact h1
theorem fY.mono{kn G:List ByteArray}(h:kn<+:G):∀(ts:List Tree) (cs:List Nat),fY ck kn ts cs->fY ck G ts cs
 |[],cs,q=>by rw[fY]at q⊢;exact q
 |t::ts,cs,q=>by rw[fY]at q⊢;obtain⟨d,ds,h1,h2,J⟩:=q;exact⟨d,ds,h1,dU.mono h t d h2,fY.mono h ts ds J⟩
end
theorem dU.kinds(aM:nY ck){kn:List ByteArray}(n:Nat):∀c,c<n->∀t u,dU ck kn t c->dU ck kn u c->iZ t=iZ u:=by
 induction n with
 |zero=>intro c hc;omega
 |succ n aJ=>
  intro c hc t u O Y;cases t with
  |node k s l G=>
   cases u with
   |node k' s' l' J=>
    rw[dU]at O Y;obtain⟨cs,h1,h2,ax⟩:=O;obtain⟨aN,g1,g2,ak⟩:=Y;rw[h1]at g1;obtain⟨rfl,rfl⟩:=aM (aU g1);rw[iZ,iZ];congr 1
    have key:∀(cs:List Nat) (G J:List Tree),(∀d∈cs,d<c)->fY ck kn G cs->fY ck kn J cs->ja G=ja J:=by
     intro cs;induction cs with
     |nil=>
      intro G J _ h g;cases G with
      |nil=>cases J with
       |nil=>rfl
       |cons a l=>rw[fY]at g;obtain⟨_,_,e,_⟩:=g;cases e
      |cons a l=>rw[fY]at h;obtain⟨_,_,e,_⟩:=h;cases e
     |cons d cs aL=>
      intro G J hd h g;cases G with
      |nil=>rw[fY]at h;cases h
      |cons a l=>cases J with
       |nil=>rw[fY]at g;cases g
       |cons b m=>rw[fY]at h g;obtain⟨_,_,ab,aB,aG⟩:=h;obtain⟨_,_,aj,am,ao⟩:=g;cases ab;cases aj;rw[ja,ja,aJ d (by have:=hd d eu;omega) a b aB am,aL l m (fun e he=>hd e (cW _ he)) aG ao]
    exact key cs G J h2 ax ak
theorem dU.lt{kn:List ByteArray}{t:Tree}{c:Nat}(h:dU ck kn t c):c<kn.length:=by
 cases t with
 |node k s l G=>
  rw[dU]at h;obtain⟨cs,h1,_⟩:=h;rcases b7 c kn.length with q|q;·exact q
  ·rw[gM q]at h1;cases h1
theorem GV(aj:nY ck){kn:List ByteArray}(J:ln ck kn)(k:Int)(s:ByteArray)(cs:List Nat)(Y:∀d∈cs,d<kn.length):kn<+:(gw kn (ck k s cs)).2/\ln ck (gw kn (ck k s cs)).2/\(gw kn (ck k s cs)).2[(gw kn (ck k s cs)).1]? =some (ck k s cs)/\∀d∈cs,d<(gw kn (ck k s cs)).1:=by
 unfold gw;split;·rename_i i h;rw[oB]at h;obtain⟨G,h1,-⟩:=h;simp only[decide_eq_true_eq]at h1;refine⟨Ce,J,by simp only;rw[aE G,h1],?_⟩;obtain⟨k',s',ak,O,ab⟩:=J i G;rw[h1]at O;obtain⟨-,rfl⟩:=aj O;exact ab
 ·refine⟨⟨_,rfl⟩,fun i G=> ?_,by simp,Y⟩;simp only[cI,bF,cL]at G;by_cases e:i<kn.length;·rw[List.getElem_append_left e];exact J i e
  ·obtain rfl:i=kn.length:=by omega
   exact⟨k,s,cs,by simp,Y⟩
mutual
theorem GX(J:nY ck)(m:Nat):∀(t:Tree) (n:Nat) (kn:List ByteArray),ln ck kn->kn<+:(cS ck m t n kn).2.2/\ln ck (cS ck m t n kn).2.2/\dU ck (cS ck m t n kn).2.2 t (cS ck m t n kn).2.1/\∀x∈(cS ck m t n kn).1,∃u,dU ck (cS ck m t n kn).2.2 u x.a6/\x.size=u.size/\n<=x.number/\((iZ t).drop (x.number-n)).take u.size=iZ u
 | .node k s l G,n,kn,aj=>by
  obtain⟨h1,h2,O,Y,ab⟩:=uX J m G (n+1) kn aj;have q:=GV J h2 k s _ Y;rw[cS];simp only;have e:dU ck (gw (bz ck m G (n+1) kn).2.2 (ck k s (bz ck m G (n+1) kn).2.1)).2 (.node k s l G) (gw (bz ck m G (n+1) kn).2.2 (ck k s (bz ck m G (n+1) kn).2.1)).1:=by rw[dU];exact⟨_,q.2.2.1,q.2.2.2,fY.mono q.1 _ _ O⟩
  refine⟨h1.trans q.1,q.2.1,e,fun x hx=> ?_⟩;rcases b8.1 hx with rfl|hx;·refine⟨_,e,by simp only[Tree.size],kI _,?_⟩;simp only[Nat.sub_self,List.drop_zero];rw[List.take_of_length_le (by rw[lp];exact kI _)]
  ·obtain⟨u,ak,am,ax,ao⟩:=ab x hx;refine⟨u,ak.mono q.1,am,by omega,?_⟩;rw[iZ,show x.number-n=(x.number-(n+1))+1 by omega,List.drop_succ_cons];exact ao
theorem uX(aj:nY ck)(m:Nat):∀(ts:List Tree) (n:Nat) (kn:List ByteArray),ln ck kn->kn<+:(bz ck m ts n kn).2.2/\ln ck (bz ck m ts n kn).2.2/\fY ck (bz ck m ts n kn).2.2 ts (bz ck m ts n kn).2.1/\(∀d∈(bz ck m ts n kn).2.1,d<(bz ck m ts n kn).2.2.length)/\∀x∈(bz ck m ts n kn).1,∃u,dU ck (bz ck m ts n kn).2.2 u x.a6/\x.size=u.size/\n<=x.number/\((ja ts).drop (x.number-n)).take u.size=iZ u
 |[],n,kn,J=>by rw[bz];exact⟨Ce,J,by rw[fY],fun _ h=>by(cases h),fun _ h=>by cases h⟩
 |t::ts,n,kn,J=>by
  obtain⟨h1,h2,ab,aB⟩:=GX aj m t n kn J;obtain⟨g1,g2,am,ao,ax⟩:=uX aj m ts (n+t.size) _ h2;rw[bz];simp only;refine⟨h1.trans g1,g2,?_,fun d hd=> ?_,fun x hx=> ?_⟩;·rw[fY];exact⟨_,_,rfl,dU.mono g1 _ _ ab,am⟩
  ·rcases b8.1 hd with rfl|hd;·exact dU.lt (dU.mono g1 _ _ ab)
   ·exact ao d hd
  ·rw[ja];rcases xm.1 hx with hx|hx;·obtain⟨u,O,Y,ak,G⟩:=aB x hx;refine⟨u,dU.mono g1 _ _ O,Y,ak,?_⟩;have aG:=congrArg List.length G;rw[mb,pq,lp,lp]at aG;have aJ:=u.size_eq;rw[List.drop_append_of_le_length (by rw[lp];omega),List.take_append_of_le_length (by rw[pq,lp];omega)];exact G
   ·obtain⟨u,O,Y,ak,G⟩:=ax x hx;refine⟨u,O,Y,by omega,?_⟩;rw[List.drop_append,List.drop_of_length_le (by rw[lp];omega),ji,lp,show x.number-n-t.size=x.number-(n+t.size) by omega];exact G
end
theorem zN(am:nY ck)(ds:List cF)(kn:List ByteArray)(aj:ln ck kn):kn<+:(dk ck ds kn).2/\ln ck (dk ck ds kn).2/\∀x∈(dk ck ds kn).1,∃u,dU ck (dk ck ds kn).2 u x.a6/\x.size=u.size/\∃d∈ds,x.module=d.module/\d.number+1<=x.number/\((ja d.t.kids).drop (x.number-(d.number+1))).take u.size=iZ u:=by
 unfold dk
 have key:∀(es:List cF) (s:List bq×List ByteArray),(∀d∈es,d∈ds)->kn<+:s.2->ln ck s.2->(∀x∈s.1,∃u,dU ck s.2 u x.a6/\x.size=u.size/\∃d∈ds,x.module=d.module/\d.number+1<=x.number/\((ja d.t.kids).drop (x.number-(d.number+1))).take u.size=iZ u)->
   kn<+:(es.foldl (gG ck) s).2/\ln ck (es.foldl (gG ck) s).2/\∀x∈(es.foldl (gG ck) s).1,∃u,dU ck (es.foldl (gG ck) s).2 u x.a6/\x.size=u.size/\∃d∈ds,x.module=d.module/\d.number+1<=x.number/\((ja d.t.kids).drop (x.number-(d.number+1))).take u.size=iZ u:=by
  intro es;induction es with
  |nil=>intro s _ h1 h2 G;exact⟨h1,h2,G⟩
  |cons d es ak=>
   intro s Y h1 h2 G;rw[dK];obtain⟨g1,g2,-,-,ab⟩:=uX am d.module d.t.kids (d.number+1) s.2 h2;refine ak _ (fun e he=>Y e (cW _ he)) (h1.trans g1) g2 fun x hx=> ?_;unfold gG at hx⊢;simp only at hx⊢;rcases xm.1 hx with hx|hx;·obtain⟨u,J,O⟩:=G x hx;exact⟨u,dU.mono g1 _ _ J,O⟩
   ·obtain⟨u,J,O,ao,ax⟩:=ab x hx
    exact⟨u,J,O,d,Y d eu,(by
     have:∀(ts:List Tree) (n:Nat) (kn:List ByteArray),∀x∈(bz ck d.module ts n kn).1,x.module=d.module:=fun ts n kn x hx=>(uW ts n kn x hx)
     exact this _ _ _ x hx),ao,ax⟩
 exact key ds ([],kn) (fun _ h=>h) Ce aj fun x hx=>by cases hx
theorem GY(G:nY ck)(J nd:List cF):∀x∈(dk ck J []).1,∀y∈(dk ck nd (dk ck J []).2).1,x.a6=y.a6->x.size=y.size:=by intro x hx y hy e;obtain⟨ax,O,Y⟩:=zN G J [] (fun i ab=>by simp at ab);obtain⟨b1,b2,b3⟩:=zN G nd _ O;obtain⟨u,aj,ak,-⟩:=Y x hx;obtain⟨v,am,ao,-⟩:=b3 y hy;have:=dU.kinds G (x.a6+1) x.a6 (by omega) u v (dU.mono b1 _ _ aj) (by rw[e];exact am);rw[ak,ao,<-lp,<-lp,this]
end
theorem GZ(T:fq):nY (aX T):=fun k k' s s' cs G h=>by unfold aX at h;have:=congrArg (fun b:ByteArray=>b.data.toList) h;exact GR T (by simpa using this)
end Go.Proofs.YtdplggpbgommnaaGreatDoor
