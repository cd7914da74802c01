/- Memory: the part that does not change (h), rows that a call owns, and how a world goes on from another. -/
import Derived.Test.YtdplggpbgommnaaGreatDoorRows
import Derived.WalkSpells
import Derived.WalkLawsBesides
import Derived.Lib.Hide
open Array renaming getElem?_eq_none->iF
open ByteArray renaming mk->qC
open Go renaming heap_alloc_new->gL,madeCells->eS,maxLen->ew,run_underlying->gl,size_madeCells->sx,wpList->dI
open Go.Addr renaming add_lit->sw
open Go.Addr.mk renaming injEq->cx
open Go.Builtin renaming append_->Bv,firstCells->Bz,lenOf->Bw
open Go.IntKind renaming i64->ae
open Go.Proofs.Tryz renaming prog->ai
open Go.RowKit.Below renaming heap_alloc->fp,heap_setCell->cH,refl->aD
open Go.Value renaming agg->aq,bool->ay,int->af,ownBlock->bW,slice->ag,string->ah
open Go.Value.slice renaming injEq->bU
open Go.World renaming cell?_alloc_at->cJ,cell?_of_block->dc,setCell->ef
open Go.World.grownBy renaming refl->kC
open List renaming append_assoc->fI,drop_eq_getElem_cons->jh,eq_nil_of_length_eq_zero->kA,getD_eq_getElem?_getD->bb,getElem?_eq_getElem->aE,getElem?_eq_none->gM,getElem?_take->vD,getElem_cons_succ->dV,length_append->cI,length_cons->bF,mem_cons->b8,takeWhile_cons->sC,take_of_length_le->iG,take_succ_cons->fl
open List.cons renaming injEq->ii
open Nat renaming add_assoc->bP,add_mul->gN,add_zero->dz,eq_zero_or_pos->et,le_mul_of_pos_right->vE,le_refl->kI,le_trans->b5,lt_of_lt_of_le->bK,lt_or_ge->b7,mul_comm->vF,zero_add->cO,zero_le->aW
open Option.some renaming injEq->aC,inj->aU
set_option maxRecDepth 100000
namespace Go.Proofs.YtdplggpbgommnaaGreatDoor
open Go.RowKit
theorem _root_.Go.RowKit.Below.drewN{B:Nat}{a w:World}(h:Below B a w)(n:Nat):Below B a (w.drewN n):=⟨h.os,h.tape,h.output,h.size,h.block⟩
abbrev Hp:=Nat->Option (Array Value)
def bi(w:World)(b:Nat):Option (Array Value):=
 match w.heap[b]?with
 |some (.cells c _ _)=>some c
 |_=>none
theorem cD{w:World}{b:Nat}{c:Array Value}(h:bi w b=some c):b<w.heap.size:=by
 rcases b7 b w.heap.size with G|G;·exact G
 ·simp[bi,iF G]at h
theorem pH{w:World}{b:Nat}{c:Array Value}(h:bi w b=some c)(o:Nat):w.cell? ⟨b,o,none⟩=c[o]? :=by
 unfold bi at h;split at h;·rename_i c' e f G;simp only[aC]at h;subst h;simp[World.cell?,G]
 ·simp at h
theorem oO{w w':World}{b:Nat}(h:w'.heap[b]? =w.heap[b]?):bi w' b=bi w b:=by simp[bi,h]
def ao(h:Hp)(w:World):Prop:=∀b c,h b=some c->bi w b=some c
def Hp.le(h h':Hp):Prop:=∀b c,h b=some c->h' b=some c
theorem Hp.le_refl(h:Hp):h.le h:=fun _ _ x=>x
theorem Hp.le_trans{a b c:Hp}(h:a.le b)(k:b.le c):a.le c:=fun _ _ x=>k _ _ (h _ _ x)
structure St(B:Nat)(h0:Hp)(w0:World)(h:Hp)(w:World):Prop where
 below:Below B w0 w
 I:ao h w
 le:h0.le h
 aI:∀b,b<B->h b=h0 b
 base:B<=w0.heap.size
theorem St.refl{h:Hp}{w:World}(G:ao h w):St w.heap.size h w h w:=⟨aD _ _,G,Hp.le_refl _,fun _ _=>rfl,kI _⟩
theorem St.dN{h:Hp}{w:World}(J:ao h w){B:Nat}(G:B<=w.heap.size):St B h w h w:=⟨aD _ _,J,Hp.le_refl _,fun _ _=>rfl,G⟩
theorem St.size{B:Nat}{G h:Hp}{w0 w:World}(s:St B G w0 h w):B<=w.heap.size:=b5 s.base s.below.size
theorem St.gq{B:Nat}{G h:Hp}{w0 w:World}(s:St B G w0 h w):ao G w:=fun b c hc=>s.I b c (s.le b c hc)
theorem ao.keep{h:Hp}{w w':World}(G:ao h w)(J:∀b c,h b=some c->w'.heap[b]? =w.heap[b]?):ao h w':=fun b c hc=>by rw[oO (J b c hc)];exact G b c hc
theorem ao.alloc{h:Hp}{w:World}(G:ao h w)(o:Obj):ao h (w.alloc o):=
 G.keep fun b _ hc=>fp _ _ _ (cD (G b _ hc))
theorem ao.drew{h:Hp}{w:World}(G:ao h w):ao h w.drew:=G
theorem ao.drewN{h:Hp}{w:World}(G:ao h w)(n:Nat):ao h (w.drewN n):=G
theorem ao.below{h:Hp}{w w':World}(G:ao h w)(J:Below w.heap.size w w'):ao h w':=
 G.keep fun b _ hc=>J.block b (cD (G b _ hc))
theorem St.drew{B:Nat}{G h:Hp}{w0 w:World}(s:St B G w0 h w):St B G w0 h w.drew:=⟨s.below.drew,s.I,s.le,s.aI,s.base⟩
theorem St.drewN{B:Nat}{G h:Hp}{w0 w:World}(s:St B G w0 h w)(n:Nat):St B G w0 h (w.drewN n):=⟨s.below.drewN n,s.I,s.le,s.aI,s.base⟩
theorem St.alloc{B:Nat}{G h:Hp}{w0 w:World}(s:St B G w0 h w)(o:Obj):St B G w0 h (w.alloc o):=⟨s.below.alloc s.size o,s.I.alloc o,s.le,s.aI,s.base⟩
theorem St.setCell{B:Nat}{G h:Hp}{w0 w:World}(s:St B G w0 h w){p:Addr}(hp:B<=p.block)(hf:h p.block=none)(v:Value):St B G w0 h (w.setCell p v):=
 ⟨s.below.setCell hp v,s.I.keep fun b c hc=>cH _ _ _ _ (fun e=>by subst e;simp[hf]at hc),s.le,s.aI,s.base⟩
theorem St.grown{B:Nat}{G h:Hp}{w0 w w':World}{row:Option Nat}(s:St B G w0 h w)(J:w.grownBy w' row)(hr:∀k,row=some k->B<=k/\h k=none):St B G w0 h w':=
 ⟨s.below.grown J s.size (fun k e=>(hr k e).1),s.I.keep fun b c hc=>J.block b (cD (s.I b c hc)) (fun e=>by have:=(hr b e.symm).2;simp[this]at hc),s.le,s.aI,s.base⟩
theorem St.call{B:Nat}{G h h':Hp}{w0 w w':World}(s:St B G w0 h w)(t:St w.heap.size h w h' w'):St B G w0 h' w':=
 ⟨s.below.trans (t.below.mono s.size),t.I,Hp.le_trans s.le t.le,fun b J=>(t.aI b (bK J s.size)).trans (s.aI b J),s.base⟩
theorem St.pI{h:Hp}{w w':World}(J:ao h w)(G:Below w.heap.size w w'):St w.heap.size h w h w':=⟨G,J.below G,Hp.le_refl _,fun _ _=>rfl,kI _⟩
theorem St.same{B:Nat}{G h:Hp}{w0 w w':World}(s:St B G w0 h w)(J:Below w.heap.size w w'):St B G w0 h w':=s.call (St.pI s.I J)
def Hp.fr(h:Hp)(B:Nat)(w:World):Hp:=fun b=>if b<B then h b else bi w b
theorem Hp.gQ{B:Nat}{h:Hp}{w:World}(G:ao h w):h.le (h.fr B w):=fun b c hc=>by
 unfold Hp.fr;split;·exact hc
 ·exact G b c hc
theorem ao.fr{B:Nat}{h:Hp}{w:World}(G:ao h w):ao (h.fr B w) w:=fun b c hc=>by
 unfold Hp.fr at hc;split at hc;·exact G b c hc
 ·exact hc
theorem St.fr{B:Nat}{G h:Hp}{w0 w:World}(s:St B G w0 h w):St B G w0 (h.fr B w) w:=
 ⟨s.below,s.I.fr,Hp.le_trans s.le (Hp.gQ s.I),fun b J=>by unfold Hp.fr;rw[if_pos J];exact s.aI b J,s.base⟩
def Sl(h:Hp)(v:Value)(n k:Nat)(cs:List Value):Prop:=
 ∃a cap,v=ag a n cap/\n<=140737488355328/\cs.length=n*k/\
  (n=0\/∃b off c,a=some ⟨b,off,none⟩/\h b=some c/\∀i,i<n*k->c[off+i]? =cs[i]?)
theorem Sl.mono{h h':Hp}(Y:h.le h'){v:Value}{n k:Nat}{cs:List Value}(s:Sl h v n k cs):Sl h' v n k cs:=by
 obtain⟨a,J,rfl,h1,h2,G⟩:=s;refine⟨a,J,rfl,h1,h2,?_⟩;rcases G with G|⟨b,off,c,rfl,O,hc⟩;·exact .inl G
 ·exact .inr ⟨b,off,c,rfl,Y _ _ O,hc⟩
theorem Sl.nil(h:Hp)(k:Nat)(a:Option Addr)(G:Nat):Sl h (ag a 0 G) 0 k []:=⟨a,G,rfl,aW _,by simp,.inl rfl⟩
theorem Sl.shape{h:Hp}{v:Value}{n k:Nat}{cs:List Value}(s:Sl h v n k cs):∃a G,v=ag a n G/\n<=140737488355328:=by obtain⟨a,G,rfl,h1,_⟩:=s;exact⟨a,G,rfl,h1⟩
theorem Sl.len{h:Hp}{v:Value}{n k:Nat}{cs:List Value}(s:Sl h v n k cs):n<=140737488355328/\cs.length=n*k:=by obtain⟨a',G,he,h1,h2,J⟩:=s;exact⟨h1,h2⟩
theorem Sl.cells{h:Hp}{a:Option Addr}{n m Y k:Nat}{cs:List Value}(hs:Sl h (ag a m Y) n k cs){w:World}(O:ao h w)(hn:0<n):∃b off,a=some ⟨b,off,none⟩/\b<w.heap.size/\∀i v,cs[i]? =some v->w.cell? ⟨b,off+i,none⟩=some v:=by
 obtain⟨a',ab,he,h1,h2,G⟩:=hs;simp only[bU]at he;obtain⟨rfl,rfl,rfl⟩:=he;rcases G with G|⟨b,off,c,rfl,J,hc⟩;·omega
 ·refine⟨b,off,rfl,cD (O b c J),fun i v hv=> ?_⟩
  have:i<cs.length:=by
   rcases b7 i cs.length with h|h;·exact h
   ·rw[gM h]at hv;simp at hv
  rw[pH (O b c J),hc i (by omega),hv]
structure Ow(w:World)(h:Hp)(B:Nat)(e:TypeId)(k:Nat)(v:Value)(n:Nat)(xs:List Value):Prop where
 row:w.ownsRow B e k v n xs
 free:∀g,v.ownBlock=some g->h g=none
theorem Ow.len{w:World}{h:Hp}{B:Nat}{e:TypeId}{k:Nat}{v:Value}{n:Nat}{xs:List Value}(o:Ow w h B e k v n xs):xs.length=n*k:=o.row.1
theorem Ow.nil(w:World)(h:Hp)(B:Nat)(e:TypeId)(k:Nat):Ow w h B e k (ag none 0 0) 0 []:=⟨⟨by simp,.inl ⟨rfl,rfl⟩⟩,fun _ G=>by simp[bW]at G⟩
theorem Ow.lt{w:World}{h:Hp}{B:Nat}{e:TypeId}{k:Nat}{v:Value}{n:Nat}{xs:List Value}(o:Ow w h B e k v n xs):∀g,v.ownBlock=some g->B<=g/\g<w.heap.size:=by
 intro g G;rcases o.row.2 with⟨rfl,rfl⟩|⟨g',ab,aj,rfl,Y,O,_⟩;·simp[bW]at G
 ·simp only[bW,aC]at G;subst G;refine⟨Y,?_⟩;rcases b7 g' w.heap.size with J|J;·exact J
  ·rw[iF J]at O;simp at O
theorem Ow.keep{w w':World}{h h':Hp}{B:Nat}{e:TypeId}{k:Nat}{v:Value}{n:Nat}{xs:List Value}(o:Ow w h B e k v n xs)(ak:∀g,v.ownBlock=some g->w'.heap[g]? =w.heap[g]?)(aj:∀g,v.ownBlock=some g->h' g=h g):Ow w' h' B e k v n xs:=by
 refine⟨⟨o.row.1,?_⟩,fun g G=>by rw[aj g G];exact o.free g G⟩;rcases o.row.2 with hn|⟨g',J,O,rfl,Y,ab,r⟩;·exact .inl hn
 ·exact .inr ⟨g',J,O,rfl,Y,by rw[ak g' rfl];exact ab,r⟩
section
variable {w w':World} {h h':Hp} {B:Nat} {e:TypeId} {k:Nat} {v:Value} {n:Nat} {xs:List Value}
theorem Ow.alloc(o:Ow w h B e k v n xs)(b:Obj):Ow (w.alloc b) h B e k v n xs:=o.keep (fun g G=>fp _ _ _ (o.lt g G).2) (fun _ _=>rfl)
theorem Ow.drew(o:Ow w h B e k v n xs):Ow w.drew h B e k v n xs:=o.keep (fun _ _=>rfl) (fun _ _=>rfl)
theorem Ow.drewN(o:Ow w h B e k v n xs)(m:Nat):Ow (w.drewN m) h B e k v n xs:=o.keep (fun _ _=>rfl) (fun _ _=>rfl)
theorem Ow.setCell(o:Ow w h B e k v n xs){p:Addr}(hp:v.ownBlock≠some p.block)(u:Value):Ow (w.setCell p u) h B e k v n xs:=
 o.keep (fun g G=>cH _ _ _ _ (fun e=>hp (by rw[G,e]))) (fun _ _=>rfl)
theorem Ow.grown{row:Option Nat}(o:Ow w h B e k v n xs)(J:w.grownBy w' row)(hr:∀g,v.ownBlock=some g->row≠some g):Ow w' h B e k v n xs:=
 o.keep (fun g G=>J.block g (o.lt g G).2 (fun e=>hr g G e.symm)) (fun _ _=>rfl)
theorem Ow.call(o:Ow w h B e k v n xs)(t:St w.heap.size h w h' w'):Ow w' h' B e k v n xs:=
 o.keep (fun g G=>t.below.block g (o.lt g G).2) (fun g G=>t.aI g (o.lt g G).2)
theorem Ow.same(o:Ow w h B e k v n xs)(G:Below w.heap.size w w'):Ow w' h B e k v n xs:=
 o.keep (fun g J=>G.block g (o.lt g J).2) (fun _ _=>rfl)
theorem Ow.base(o:Ow w h B e k v n xs){B':Nat}(O:B'<=B):Ow w h B' e k v n xs:=by
 refine⟨⟨o.row.1,?_⟩,o.free⟩;rcases o.row.2 with hn|⟨g',G,J,rfl,Y,r⟩;·exact .inl hn
 ·exact .inr ⟨g',G,J,rfl,by omega,r⟩
theorem Ow.shape(o:Ow w h B e k v n xs):∃a G,v=ag a n G:=by
 rcases o.row.2 with⟨rfl,rfl⟩|⟨g',G,J,rfl,_⟩;·exact⟨_,_,rfl⟩
 ·exact⟨_,_,rfl⟩
theorem Ow.of{row:Option Nat}(o:w'.ownsRow B e k v n xs)(J:ao h w)(hr:∀g,row=some g->h g=none)(hv:∀g,v.ownBlock=some g->w.heap.size<=g\/row=some g):Ow w' h B e k v n xs:=
 ⟨o,fun g G=>by
  rcases hv g G with h1|h1
  ·cases hh:h g with
   |none=>rfl
   |some c=>have:=cD (J g c hh);omega
  ·exact hr g h1⟩
theorem Ow.sl(o:Ow w h B e k v n xs)(hn:n<=140737488355328):Sl (h.fr B w) v n k xs:=by
 rcases o.row with⟨h1,⟨rfl,rfl⟩|⟨g',ab,G,rfl,aj,J,ao,ak,am,Y⟩⟩;·exact⟨_,_,rfl,hn,h1,.inl rfl⟩
 ·refine⟨_,_,rfl,hn,h1,.inr ⟨g',0,G,rfl,?_,?_⟩⟩;·unfold Hp.fr;rw[if_neg (by omega)];simp[bi,J]
  ·intro i O;rw[<-Y,vD,if_pos O,cO];simp
theorem Ow.cell{a:Option Addr}{Y:Nat}(o:Ow w h B e k (ag a n Y) n xs)(hn:0<n):∃g,a=some ⟨g,0,none⟩/\B<=g/\g<w.heap.size/\h g=none/\(∀i u,xs[i]? =some u->w.cell? ⟨g,i,none⟩=some u)/\(∀i,w.frozen? ⟨g,i,none⟩=false):=by
 have ak:=o.lt;have aj:=o.free;rcases o.row with⟨h1,⟨hv,rfl⟩|⟨g',ao,ax,hv,ab,O,aL,aB,aG,am⟩⟩;·omega
 ·simp only[bU]at hv;obtain⟨rfl,-,rfl⟩:=hv;refine⟨g',rfl,ab,(ak g' rfl).2,aj g' rfl,fun i u G=> ?_,fun i=>by simp[World.frozen?,O]⟩
  have aJ:i<xs.length:=by
   rcases b7 i xs.length with J|J;·exact J
   ·rw[gM J]at G;simp at G
  rw[<-am,vD,if_pos (by omega)]at G;simp only[World.cell?,O];simpa using G
end
theorem Ow.set{w:World}{h:Hp}{B:Nat}{e:TypeId}{k g n G:Nat}{xs:List Value}(o:Ow w h B e k (ag (some ⟨g,0,none⟩) n G) n xs)(i:Nat)(u:Value)(aB:i<n*k):Ow (w.setCell ⟨g,i,none⟩ u) h B e k (ag (some ⟨g,0,none⟩) n G) n (xs.set i u):=by
 have aj:=o.free;rcases o.row with⟨h1,⟨hv,rfl⟩|⟨g',ax,J,hv,O,ak,am,Y,ab,ao⟩⟩;·simp at hv
 ·simp only[bU,aC,cx,and_true,true_and]at hv;obtain⟨rfl,rfl⟩:=hv;refine⟨⟨by simpa using h1,.inr ⟨g,G,J.setIfInBounds i u,rfl,O,?_,am,Y,by simpa using ab,?_⟩⟩,aj⟩;·simp[ef,Array.getElem?_modify,ak]
  ·rw[<-ao];simp only[Array.toList_setIfInBounds];rw[List.take_set]
structure eZ(P:Program)(t e:TypeId)(size bytes:Nat)(z:List Value):Prop where
 und:P.underlying t=some (.slice e)
 lJ:∃i zv,P.info? e=some i/\i.zero=some zv/\i.size=size/\i.bytes=bytes/\zv.cells=z.toArray
 wO:z.length=size
 pos:0<size
 qR:0<bytes
theorem eZ.mk'{P:Program}{t e:TypeId}{size bytes:Nat}{zv:Value}{z:List Value}(h1:P.underlying t=some (.slice e))(h2:(P.info? e).map (fun i=>(i.zero,i.size,i.bytes))=some (some zv,size,bytes))(G:zv.cells=z.toArray)(J:z.length=size)(O:0<size)(Y:0<bytes):eZ P t e size bytes z:=by obtain⟨i,a,b,c,d⟩:=info_parts h2;exact⟨h1,⟨i,zv,a,b,c,d,G⟩,J,O,Y⟩
theorem ft{P:Program}{t e:TypeId}{size bytes:Nat}{z:List Value}(E:eZ P t e size bytes z){ops:Array Oper}{rest:List Oper}{o:Oper}{a:Act}{Q:Exit->Act->World->Prop}(ao:o.guard=none)(s x:Operand)(aL:o.op= .call {callee:= .builtin .append,args:= #[s,x],argTypes:= #[t,t]}){B:Nat}{Y h:Hp}{w0 w:World}(st:St B Y w0 h w)(v:Value)(n:Nat)(xs:List Value)(hs:a.eval s=v)(O:Ow w h B e size v n xs)(ad:Addr)(m c:Nat)(news:List Value)(hx:a.eval x=ag (some ad) m c)(aB:news.length=m*size)(aJ:∀j u,news[j]? =some u->w.cell? (ad.add j)=some u)(h1:∀u∈news,u.oneCell'=true)(ak:(n+m)*bytes<=140737488355328)(K:∀v' w',St B Y w0 h w'->Ow w' h B e size v' (n+m) (xs++news)->w.grownBy w' v.ownBlock->(v'.ownBlock=v.ownBlock\/v'.ownBlock=some w.heap.size)->dI P ops Q rest (a.put o.dst v') w'):dI P ops Q (o::rest) a w:=by
 obtain⟨i,zv,ax,hz,aN,am,aO⟩:=E.lJ;have aG:n+m<=ew:=by have:=vE (n+m) E.qR;simp only[ew];omega
 refine wpList_append_own_at w ao s x t aL B e i zv size bytes E.und ax hz aN am (by rw[aO];simpa using E.wO) E.pos v n xs hs O.row ad m c news hx aB aJ h1 aG ak st.size ?_;intro v' w' h2 ab _ G;have aM:St B Y w0 h w':=st.grown ab (fun k aj=>⟨(O.lt k aj).1,O.free k aj⟩);refine K v' w' aM (Ow.of h2 st.I (fun g J=>O.free g J) ?_) ab G;intro g J;rcases G with G|G;·exact .inr (by rw[<-G,J])
 ·rw[G]at J;exact .inl (by simp only[aC]at J;omega)
theorem s9{P:Program}{t e:TypeId}{size bytes:Nat}{z:List Value}(E:eZ P t e size bytes z){ops:Array Oper}{rest:List Oper}{o:Oper}{a:Act}{Q:Exit->Act->World->Prop}(ak:o.guard=none)(s x:Operand)(ao:o.op= .call {callee:= .builtin .append,args:= #[s,x],argTypes:= #[t,t]}){B:Nat}{aj h:Hp}{w0 w:World}(st:St B aj w0 h w)(v:Value)(n:Nat)(xs:List Value)(hs:a.eval s=v)(Y:Ow w h B e size v n xs)(u:Value)(m:Nat)(news:List Value)(hx:a.eval x=u)(G:Sl h u m size news)(h1:∀u∈news,u.oneCell'=true)(ax:(n+m)*bytes<=140737488355328)(K:∀v' w',St B aj w0 h w'->Ow w' h B e size v' (n+m) (xs++news)->w.grownBy w' v.ownBlock->(v'.ownBlock=v.ownBlock\/v'.ownBlock=some w.heap.size)->dI P ops Q rest (a.put o.dst v') w'):dI P ops Q (o::rest) a w:=by
 obtain⟨ad,ab,rfl,_⟩:=G.shape;have O:=G.len.2;cases ad with
 |some ad=>
  refine ft E ak s x ao st v n xs hs Y ad m ab news hx O ?_ h1 ax K;intro j q hj
  have hm:0<m:=by
   rcases et m with h|h;·subst h;have:news=[]:=kA (by simpa using O);subst this;simp at hj
   ·exact h
  obtain⟨b,off,J,_,hc⟩:=G.cells st.I hm;obtain rfl:=aU J;rw[sw];exact hc j q hj
 |none=>
  have hm:m=0:=by
   rcases et m with h|h;·exact h
   ·obtain⟨b,off,J,_⟩:=G.cells st.I h;simp at J
  subst hm;have hn:news=[]:=kA (by simpa using O);subst hn;obtain⟨i,zv,am,hz,aO,aN,aP⟩:=E.lJ
  have aG:∀ty,(Bv #[t,t] ty #[v,ag none 0 ab]).run P w= .ok v w:=by
   intro ty;rcases Y.row.2 with⟨rfl,rfl⟩|⟨g,aL,aM,rfl,_,_,aB,_⟩;·simp[Bv,gl E.und,sizeOf,typeInfo,am,Bw,Bz]
   ·simp[Bv,gl E.und,sizeOf,typeInfo,am,Bw,Bz,aB,storeCells]
  refine wpList_plain ak fun aJ hK'=> ?_;unfold Oper.wp;simp[execOp,ao,resolve,invoke,builtin,hs,hx,aG,Result.andThen];exact hK' _ _ (K v w st (by simpa using Y) (kC _ _) (.inl rfl))
theorem bI{w:World}{h:Hp}(G:ao h w)(g:Nat)(J:w.heap.size<=g):h g=none:=by
 cases hh:h g with
 |none=>rfl
 |some c=>have:=cD (G g c hh);omega
theorem jk{P:Program}{t e:TypeId}{size bytes:Nat}{z:List Value}(E:eZ P t e size bytes z){ops:Array Oper}{rest:List Oper}{o:Oper}{a:Act}{Q:Exit->Act->World->Prop}(ao:o.guard=none)(l c:Operand)(aL:o.op=Op.makeSlice t l c){B:Nat}{G h:Hp}{w0 w:World}(st:St B G w0 h w)(Y O:IntKind)(L C:Int)(n:Nat)(aG:a.eval l=af Y L)(hc:a.eval c=af O C)(aj:L=(n:Int))(ab:C=(n:Int))(aO:n*bytes<=140737488355328)(K:∀w',St B G w0 h w'->Ow w' h B e size (ag (some ⟨w.heap.size,0,none⟩) n n) n (eS z.toArray (n*size)).toList->w.grownBy w' none->dI P ops Q rest (a.put o.dst (ag (some ⟨w.heap.size,0,none⟩) n n)) w'):dI P ops Q (o::rest) a w:=by
 obtain⟨i,zv,ax,hz,aM,ak,aN⟩:=E.lJ;have aJ:n<=ew:=by have:=vE n E.qR;simp only[ew];omega
 refine wpList_make_full w ao l c t aL B e i zv size E.und ax hz aM Y O L C n aG hc aj ab (by rw[ak,vF];omega) aJ st.size ?_;intro w' h2 J;rw[aN]at h2;exact K w' (st.grown J (fun k aB=>by simp at aB)) ⟨h2,fun g am=>bI st.I g (by simp[bW]at am;omega)⟩ J
theorem CV{P:Program}{t e:TypeId}{size bytes:Nat}{z:List Value}(E:eZ P t e size bytes z){ops:Array Oper}{rest:List Oper}{o:Oper}{a:Act}{Q:Exit->Act->World->Prop}(am:o.guard=none)(l c:Operand)(aJ:o.op=Op.makeSlice t l c){B:Nat}{G h:Hp}{w0 w:World}(st:St B G w0 h w)(Y O:IntKind)(C:Int)(n:Nat)(aB:a.eval l=af Y 0)(hc:a.eval c=af O C)(ab:C=(n:Int))(aM:n*bytes<=140737488355328)(K:∀w',St B G w0 h w'->Ow w' h B e size (ag (some ⟨w.heap.size,0,none⟩) 0 n) 0 []->w.grownBy w' none->dI P ops Q rest (a.put o.dst (ag (some ⟨w.heap.size,0,none⟩) 0 n)) w'):dI P ops Q (o::rest) a w:=by
 obtain⟨i,zv,ao,hz,aL,aj,aN⟩:=E.lJ;have aG:n<=ew:=by have:=vE n E.qR;simp only[ew];omega
 refine wpList_make_own w am l c t aJ B e i zv size E.und ao hz aL Y O C n aB hc ab (by rw[aj,vF];omega) aG st.size ?_;intro w' h2 J;exact K w' (st.grown J (fun k ax=>by simp at ax)) ⟨h2,fun g ak=>bI st.I g (by simp[bW]at ak;omega)⟩ J
theorem bA{n:Int}(h: -9223372036854775808<=n/\n<=9223372036854775807):ae.wrap n=n:=by rw[IntKind.wrap_i64];omega
theorem cK(w:World)(news:List Value)(T:TypeId)(b:Nat)(G:b=w.heap.size):∀j u,news[j]? =some u->(w.alloc (.cells news.toArray T)).cell? ((⟨b,0,none⟩:Addr).add j)=some u:=by intro j u J;subst G;rw[sw,cJ _ _ _ _ rfl];simpa using J
theorem cm(l:List Value)(h:l.all Value.oneCell'=true):∀u∈l,u.oneCell'=true:=List.all_eq_true.1 h
theorem mD{w w':World}{row:Option Nat}(G:w.grownBy w' row)(o:Obj):w.grownBy (w'.alloc o) row:=
 ⟨G.os,G.tape,G.output,by have:=G.size;simp;omega,fun k J O=>(fp _ _ _ (bK J G.size)).trans (G.block k J O)⟩
theorem pJ{w w':World}{row:Option Nat}(G:w.grownBy w' row){p:Addr}(hp:row=some p.block\/w.heap.size<=p.block)(u:Value):w.grownBy (w'.setCell p u) row:=
 ⟨G.os,G.tape,G.output,by simpa[ef]using G.size,fun k O J=>(cH _ _ _ _ (fun e=>by subst e;rcases hp with hp|hp;exact J hp.symm;omega)).trans (G.block k O J)⟩
theorem kc{w w1 w2:World}{row row':Option Nat}(G:w.grownBy w1 row)(J:w1.grownBy w2 row')(hr:∀k,row'=some k->row=some k\/w.heap.size<=k):w.grownBy w2 row:=
 ⟨J.os.trans G.os,J.tape.trans G.tape,J.output.trans G.output,b5 G.size J.size,fun k O Y=>(J.block k (bK O G.size) (fun e=>by
  rcases hr k e.symm with h|h;·exact Y h.symm
  ·omega)).trans (G.block k O Y)⟩
theorem Lf{w w2:World}{cs:Array Value}{T:TypeId}{G:Obj}{row:Option Nat}(g2:((w.alloc (.cells cs T)).alloc G).grownBy w2 row)(hr:∀k,row=some k->k<w.heap.size)(i:Nat):w2.cell? ⟨w.heap.size,i,none⟩=cs[i]? :=by rw[dc (a:=⟨w.heap.size,i,none⟩) (g2.block w.heap.size (by simp;omega) (fun e=>by have:=hr _ e.symm;omega)),World.cell?_alloc_past _ _ _ (by simp),cJ _ _ _ _ rfl]
theorem Lj{w w2:World}{cs:Array Value}{T:TypeId}{row:Option Nat}(g2:(w.alloc (.cells cs T)).grownBy w2 row)(hr:∀k,row=some k->k<w.heap.size)(i:Nat):w2.cell? ⟨w.heap.size,i,none⟩=cs[i]? :=by rw[dc (a:=⟨w.heap.size,i,none⟩) (g2.block w.heap.size (by simp) (fun e=>by have:=hr _ e.symm;omega)),cJ _ _ _ _ rfl]
theorem fS{w w0 G:World}{cs:Array Value}{T:TypeId}(O:w.alloc (.cells cs T)=w0)(J:Below w0.heap.size w0 G)(i:Nat):G.cell? ⟨w.heap.size,i,none⟩=cs[i]?/\G.frozen? ⟨w.heap.size,i,none⟩=false:=by subst O;rw[J.cell (by simp),J.frozen (by simp),cJ _ _ _ _ rfl,World.frozen?_alloc_at _ _ _ _ rfl];exact⟨rfl,rfl⟩
theorem CW{w:World}{h:Hp}(O:ao h w){B:Nat}(G:B<=w.heap.size)(z:Array Value)(n k:Nat)(e:TypeId)(hn:n<=ew):Ow (w.alloc (.cells (eS z (n*k)) e)) h B e k (ag (some ⟨w.heap.size,0,none⟩) 0 n) 0 []:=
 ⟨⟨by simp,.inr ⟨w.heap.size,n,eS z (n*k),rfl,G,gL w _,aW _,hn,by simp[sx],by simp⟩⟩,fun g J=>bI O g (by simp[bW]at J;omega)⟩
theorem CX{w:World}{h:Hp}(O:ao h w){B:Nat}(G:B<=w.heap.size)(z:Array Value)(n k:Nat)(e:TypeId)(hn:n<=ew):Ow (w.alloc (.cells (eS z (n*k)) e)) h B e k (ag (some ⟨w.heap.size,0,none⟩) n n) n (eS z (n*k)).toList:=
 ⟨⟨by simp[sx],.inr ⟨w.heap.size,n,eS z (n*k),rfl,G,gL w _,kI _,hn,by simp[sx],iG (by simp[sx])⟩⟩,fun g J=>bI O g (by simp[bW]at J;omega)⟩
theorem oP{w:World}{h:Hp}(O:ao h w){B:Nat}(G:B<=w.heap.size)(cs:List Value)(n k:Nat)(e:TypeId)(hn:n<=ew)(hc:cs.length=n*k):Ow (w.alloc (.cells cs.toArray e)) h B e k (ag (some ⟨w.heap.size,0,none⟩) n n) n cs:=
 ⟨⟨hc,.inr ⟨w.heap.size,n,cs.toArray,rfl,G,gL w _,kI _,hn,by simpa using hc,iG (by simp;omega)⟩⟩,fun g J=>bI O g (by simp[bW]at J;omega)⟩
def aJ{α:Type}(R:α->List Value->Prop):List α->List Value->Prop
 |[],cs=>cs=[]
 |x::xs,cs=>∃a r,cs=a++r/\R x a/\aJ R xs r
theorem aJ.mono{α:Type}{R R':α->List Value->Prop}(hR:∀x a,R x a->R' x a):∀{l:List α} {cs:List Value},aJ R l cs->aJ R' l cs
 |[],_,h=>h
 |_::_,_,⟨a,r,he,h1,h2⟩=>⟨a,r,he,hR _ _ h1,aJ.mono hR h2⟩
theorem aJ.append{α:Type}{R:α->List Value->Prop}:∀{l m:List α} {cs ds:List Value},aJ R l cs->aJ R m ds->aJ R (l++m) (cs++ds)
 |[],_,_,_,h,k=>by simp only[aJ]at h;subst h;simpa using k
 |_::_,_,_,_,⟨a,r,he,h1,h2⟩,k=>⟨a,r++_,by rw[he,fI],h1,aJ.append h2 k⟩
theorem aJ.one{α:Type}{R:α->List Value->Prop}{x:α}{a:List Value}(h:R x a):aJ R [x] a:=⟨a,[],by simp,h,rfl⟩
theorem aJ.length{α:Type}{R:α->List Value->Prop}(k:Nat)(G:∀x a,R x a->a.length=k):∀{l:List α} {cs:List Value},aJ R l cs->cs.length=l.length*k
 |[],_,h=>by simp only[aJ]at h;subst h;simp
 |_::l,_,⟨a,r,he,h1,h2⟩=>by subst he;simp only[cI,G _ _ h1,aJ.length k G h2,bF,gN];omega
theorem aJ.at{α:Type}{R:α->List Value->Prop}(k:Nat)(G:∀x a,R x a->a.length=k):∀{l:List α} {cs:List Value},aJ R l cs->∀i (J:i<l.length),∃a,R l[i] a/\∀j,j<k->cs[i*k+j]? =a[j]?
 |x::l,cs,⟨a,r,he,h1,h2⟩,0,_=>⟨a,h1,fun j hj=>by have:=G _ _ h1;rw[he,Nat.zero_mul,cO,List.getElem?_append_left (by omega)]⟩
 |x::l,cs,⟨a,r,he,h1,h2⟩,i+1,J=>by obtain⟨a',O,Y⟩:=aJ.at k G h2 i (by simpa using J);refine⟨a',O,fun j hj=> ?_⟩;have:=G _ _ h1;rw[he,List.getElem?_append_right (by rw[this,gN];omega),<-Y j hj];congr 1;rw[this,gN];omega
theorem wP(l:List Int)(k:Nat)(G:k<l.length):(l.map (af ae))[k]? =some (af ae l[k]):=by simp[G]
def bV(p:Int×Int):List Value:=[af ae p.1,af ae p.2]
theorem qU(l:List (Int×Int)):(l.flatMap bV).length=l.length*2:=by
 induction l with
 |nil=>rfl
 |cons p l G=>simp only[List.flatMap_cons,cI,G,bV,bF,List.length_nil];omega
theorem mE(l:List (Int×Int))(k:Nat)(G:k<l.length):(l.flatMap bV)[k*2]? =some (af ae l[k].1)/\(l.flatMap bV)[k*2+1]? =some (af ae l[k].2):=by
 induction l generalizing k with
 |nil=>simp at G
 |cons p l J=>
  cases k with
  |zero=>exact⟨rfl,rfl⟩
  |succ k=>
   have:=J k (by simpa using G);have e:(k+1)*2=k*2+2:=by omega
   rw[e];exact this
def aG(x:Int):Prop:= -9223372036854775808<=x/\x<=9223372036854775807
def Ints(h:Hp)(v:Value)(l:List Int):Prop:=Sl h v l.length 1 (l.map (af ae))/\∀x∈l,aG x
def jp(h:Hp)(v:Value)(l:List (Int×Int)):Prop:=Sl h v l.length 2 (l.flatMap bV)/\∀x∈l,aG x.1/\aG x.2
theorem Ints.mono{h h':Hp}(G:h.le h'){v:Value}{l:List Int}(s:Ints h v l):Ints h' v l:=⟨s.1.mono G,s.2⟩
theorem jp.mono{h h':Hp}(G:h.le h'){v:Value}{l:List (Int×Int)}(s:jp h v l):jp h' v l:=⟨s.1.mono G,s.2⟩
def io(h:Hp)(l:List Int)(a:List Value):Prop:=∃ad cap,a=[ag ad l.length cap]/\Ints h (ag ad l.length cap) l
def gP(h:Hp)(v:Value)(ls:List (List Int)):Prop:=∃cs,Sl h v ls.length 1 cs/\aJ (io h) ls cs
theorem io.mono{h h':Hp}(J:h.le h'){l:List Int}{a:List Value}(s:io h l a):io h' l a:=by obtain⟨ad,G,e,i⟩:=s;exact⟨ad,G,e,i.mono J⟩
theorem io.len{h:Hp}(l:List Int)(a:List Value)(s:io h l a):a.length=1:=by obtain⟨ad,G,rfl,_⟩:=s;rfl
theorem gP.mono{h h':Hp}(G:h.le h'){v:Value}{ls:List (List Int)}(s:gP h v ls):gP h' v ls:=by obtain⟨cs,h1,h2⟩:=s;exact⟨cs,h1.mono G,h2.mono fun _ _ r=>r.mono G⟩
theorem Ints.open{h:Hp}{v:Value}{l:List Int}(hv:Ints h v l):∃a G,v=ag a l.length G/\l.length<=140737488355328/\∀w,ao h w->0<l.length->∃b off,a=some ⟨b,off,none⟩/\b<w.heap.size/\∀k (J:k<l.length),w.cell? ⟨b,off+k,none⟩=some (af ae l[k]):=by obtain⟨s,hr⟩:=hv;obtain⟨a,G,rfl,hn⟩:=s.shape;refine⟨a,G,rfl,hn,fun w ab O=> ?_⟩;obtain⟨b,off,rfl,Y,hc⟩:=s.cells ab O;exact⟨b,off,rfl,Y,fun k J=>hc _ _ (wP l k J)⟩
theorem jp.open{h:Hp}{v:Value}{l:List (Int×Int)}(hv:jp h v l):∃a G,v=ag a l.length G/\l.length<=140737488355328/\∀w,ao h w->0<l.length->∃b off,a=some ⟨b,off,none⟩/\b<w.heap.size/\∀k (J:k<l.length),w.cell? ⟨b,off+k*2,none⟩=some (af ae l[k].1)/\w.cell? ⟨b,off+k*2+1,none⟩=some (af ae l[k].2):=by obtain⟨s,hr⟩:=hv;obtain⟨a,G,rfl,hn⟩:=s.shape;refine⟨a,G,rfl,hn,fun w ab O=> ?_⟩;obtain⟨b,off,rfl,Y,hc⟩:=s.cells ab O;refine⟨b,off,rfl,Y,fun k J=>⟨hc _ _ (mE l k J).1,?_⟩⟩;rw[bP];exact hc _ _ (mE l k J).2
theorem gP.open{h:Hp}{v:Value}{ls:List (List Int)}(hv:gP h v ls):∃a J,v=ag a ls.length J/\ls.length<=140737488355328/\∀w,ao h w->0<ls.length->∃b off,a=some ⟨b,off,none⟩/\b<w.heap.size/\∀k (O:k<ls.length),∃ad G,w.cell? ⟨b,off+k,none⟩=some (ag ad ls[k].length G)/\Ints h (ag ad ls[k].length G) ls[k]:=by obtain⟨cs,s,hr⟩:=hv;obtain⟨a,J,rfl,hn⟩:=s.shape;refine⟨a,J,rfl,hn,fun w ak Y=> ?_⟩;obtain⟨b,off,rfl,aj,hc⟩:=s.cells ak Y;refine⟨b,off,rfl,aj,fun k O=> ?_⟩;obtain⟨ax,⟨ad,G,rfl,am⟩,ab⟩:=hr.at 1 io.len k O;refine⟨ad,G,hc _ _ ?_,am⟩;have:=ab 0 (by omega);simpa using this
inductive Tree where
 |node (kind:Int) (text:ByteArray) (leads:List ByteArray) (kids:List Tree)
def Tree.kind:Tree->Int| .node k _ _ _=>k
def Tree.text:Tree->ByteArray| .node _ s _ _=>s
def Tree.leads:Tree->List ByteArray| .node _ _ l _=>l
def Tree.kids:Tree->List Tree| .node _ _ _ ks=>ks
mutual
def Tree.size:Tree->Nat
 | .node _ _ _ ks=>ax ks+1
def ax:List Tree->Nat
 |[]=>0
 |t::ts=>t.size+ax ts
end
theorem Tree.size_eq(t:Tree):t.size=ax t.kids+1:=by cases t;simp[Tree.size,Tree.kids]
theorem gR(t:Tree)(ts:List Tree):ax (t::ts)=t.size+ax ts:=by rw[ax]
theorem dB{t:Tree}{ts:List Tree}(h:t∈ts):t.size<=ax ts:=by
 induction ts with
 |nil=>simp at h
 |cons a ts G=>
  rw[gR];rcases b8.1 h with rfl|h;·omega
  ·have:=G h;omega
mutual
def bg(h:Hp):Tree->List Value->Prop
 | .node k s ls ks,cs=>∃al cl ak ck xs,cs=[af ae k,ah s,ag al ls.length cl,ag ak ks.length ck]/\aG k/\Sl h (ag al ls.length cl) ls.length 1 (ls.map ah)/\Sl h (ag ak ks.length ck) ks.length 4 xs/\eH h ks xs
def eH(h:Hp):List Tree->List Value->Prop
 |[],cs=>cs=[]
 |t::ts,cs=>∃a r,cs=a++r/\bg h t a/\eH h ts r
end
theorem eH.iff{h:Hp}:∀{ts:List Tree} {cs:List Value},eH h ts cs↔aJ (bg h) ts cs
 |[],cs=>by rw[eH,aJ]
 |t::ts,cs=>by
  rw[eH,aJ];constructor;·rintro⟨a,r,e,h1,h2⟩;exact⟨a,r,e,h1,eH.iff.1 h2⟩
  ·rintro⟨a,r,e,h1,h2⟩;exact⟨a,r,e,h1,eH.iff.2 h2⟩
theorem bg.iff{h:Hp}{t:Tree}{cs:List Value}:bg h t cs↔∃al J G ck xs,cs=[af ae t.kind,ah t.text,ag al t.leads.length J,ag G t.kids.length ck]/\aG t.kind/\Sl h (ag al t.leads.length J) t.leads.length 1 (t.leads.map ah)/\Sl h (ag G t.kids.length ck) t.kids.length 4 xs/\aJ (bg h) t.kids xs:=by
 cases t;rw[bg];constructor;·rintro⟨al,J,G,ck,xs,e,O,h1,h2,Y⟩;exact⟨al,J,G,ck,xs,e,O,h1,h2,eH.iff.1 Y⟩
 ·rintro⟨al,J,G,ck,xs,e,O,h1,h2,Y⟩;exact⟨al,J,G,ck,xs,e,O,h1,h2,eH.iff.2 Y⟩
theorem bg.len{h:Hp}(t:Tree)(cs:List Value)(e:bg h t cs):cs.length=4:=by obtain⟨al,J,G,ck,xs,rfl,_⟩:=bg.iff.1 e;rfl
mutual
theorem bg.mono{h h':Hp}(G:h.le h'):∀{t:Tree} {cs:List Value},bg h t cs->bg h' t cs
 | .node k s ls aj,cs,e=>by rw[bg]at e⊢;obtain⟨al,O,J,ck,xs,e,Y,h1,h2,ab⟩:=e;exact⟨al,O,J,ck,xs,e,Y,h1.mono G,h2.mono G,eH.mono G ab⟩
theorem eH.mono{h h':Hp}(G:h.le h'):∀{ts:List Tree} {cs:List Value},eH h ts cs->eH h' ts cs
 |[],cs,e=>by rw[eH]at e⊢;exact e
 |t::ts,cs,e=>by rw[eH]at e⊢;obtain⟨a,r,e,h1,h2⟩:=e;exact⟨a,r,e,bg.mono G h1,eH.mono G h2⟩
end
def aP(h:Hp)(v:Value)(t:Tree):Prop:=∃cs,v=aq cs.toArray/\bg h t cs
theorem aP.mono{h h':Hp}(G:h.le h'){v:Value}{t:Tree}(s:aP h v t):aP h' v t:=by obtain⟨cs,e,i⟩:=s;exact⟨cs,e,i.mono G⟩
theorem aP.open{h:Hp}{v:Value}{t:Tree}(s:aP h v t):∃al J G ck xs,v=aq #[af ae t.kind,ah t.text,ag al t.leads.length J,ag G t.kids.length ck]/\aG t.kind/\t.leads.length<=140737488355328/\t.kids.length<=140737488355328/\Sl h (ag al t.leads.length J) t.leads.length 1 (t.leads.map ah)/\Sl h (ag G t.kids.length ck) t.kids.length 4 xs/\aJ (bg h) t.kids xs:=by obtain⟨cs,rfl,e⟩:=s;obtain⟨al,J,G,ck,xs,rfl,O,h1,h2,Y⟩:=bg.iff.1 e;exact⟨al,J,G,ck,xs,rfl,O,h1.len.1,h2.len.1,h1,h2,Y⟩
def hQ(h:Hp)(v:Value)(ts:List Tree):Prop:=∃cs,Sl h v ts.length 4 cs/\aJ (bg h) ts cs
theorem hQ.mono{h h':Hp}(G:h.le h'){v:Value}{ts:List Tree}(s:hQ h v ts):hQ h' v ts:=by obtain⟨cs,h1,h2⟩:=s;exact⟨cs,h1.mono G,h2.mono fun _ _ r=>r.mono G⟩
theorem j9{h:Hp}{a:Option Addr}{m O:Nat}{ts:List Tree}{cs:List Value}(s:Sl h (ag a m O) ts.length 4 cs)(e:aJ (bg h) ts cs){w:World}(ab:ao h w)(i:Nat)(aj:i<ts.length):
  ∃b off al J G ck,a=some ⟨b,off,none⟩/\b<w.heap.size/\w.cell? ⟨b,off+i*4,none⟩=some (af ae ts[i].kind)/\w.cell? ⟨b,off+i*4+1,none⟩=some (ah ts[i].text)/\
   w.cell? ⟨b,off+i*4+2,none⟩=some (ag al ts[i].leads.length J)/\w.cell? ⟨b,off+i*4+3,none⟩=some (ag G ts[i].kids.length ck)/\
   aP h (aq #[af ae ts[i].kind,ah ts[i].text,ag al ts[i].leads.length J,ag G ts[i].kids.length ck]) ts[i]:=by
 obtain⟨b,off,rfl,Y,hc⟩:=s.cells ab (by omega);obtain⟨c4,h1,h2⟩:=e.at 4 bg.len i aj;obtain⟨al,J,G,ck,xs,rfl,ak⟩:=bg.iff.1 h1;refine⟨b,off,al,J,G,ck,rfl,Y,?_,?_,?_,?_,⟨_,rfl,h1⟩⟩;·exact hc _ _ (h2 0 (by omega))
 ·rw[bP];exact hc _ _ (h2 1 (by omega))
 ·rw[bP];exact hc _ _ (h2 2 (by omega))
 ·rw[bP];exact hc _ _ (h2 3 (by omega))
structure aB where
 kind:Int
 text:ByteArray
 parent:Int
 kids:List Int
 size:Int
instance:Inhabited aB:=⟨⟨0,⟨#[]⟩,0,[],0⟩⟩
def kM(h:Hp)(n:aB)(cs:List Value):Prop:=∃a c,cs=[af ae n.kind,ah n.text,af ae n.parent,ag a n.kids.length c,af ae n.size]/\aG n.kind/\aG n.parent/\aG n.size/\Ints h (ag a n.kids.length c) n.kids
theorem kM.len{h:Hp}(n:aB)(cs:List Value)(e:kM h n cs):cs.length=5:=by obtain⟨a,c,rfl,_⟩:=e;rfl
theorem kM.mono{h h':Hp}(O:h.le h'){n:aB}{cs:List Value}(e:kM h n cs):kM h' n cs:=by obtain⟨a,c,rfl,h1,h2,G,J⟩:=e;exact⟨a,c,rfl,h1,h2,G,J.mono O⟩
def gy(h:Hp)(v:Value)(l:List aB):Prop:=∃cs,Sl h v l.length 5 cs/\aJ (kM h) l cs
theorem gy.mono{h h':Hp}(G:h.le h'){v:Value}{l:List aB}(s:gy h v l):gy h' v l:=by obtain⟨cs,h1,h2⟩:=s;exact⟨cs,h1.mono G,h2.mono fun _ _ r=>r.mono G⟩
theorem gy.open{h:Hp}{v:Value}{l:List aB}(hv:gy h v l):∃a J,v=ag a l.length J/\l.length<=140737488355328/\
  ∀w,ao h w->∀i (O:i<l.length),∃b off G ck,a=some ⟨b,off,none⟩/\b<w.heap.size/\w.cell? ⟨b,off+i*5,none⟩=some (af ae l[i].kind)/\w.cell? ⟨b,off+i*5+1,none⟩=some (ah l[i].text)/\
   w.cell? ⟨b,off+i*5+2,none⟩=some (af ae l[i].parent)/\w.cell? ⟨b,off+i*5+3,none⟩=some (ag G l[i].kids.length ck)/\w.cell? ⟨b,off+i*5+4,none⟩=some (af ae l[i].size)/\
   Ints h (ag G l[i].kids.length ck) l[i].kids/\aG l[i].kind/\aG l[i].parent/\aG l[i].size:=by
 obtain⟨cs,s,e⟩:=hv;obtain⟨a,J,rfl,hn⟩:=s.shape;refine⟨a,J,rfl,hn,fun w aj i O=> ?_⟩;obtain⟨b,off,rfl,ab,hc⟩:=s.cells aj (by omega);obtain⟨c5,h1,h2⟩:=e.at 5 kM.len i O;obtain⟨G,ck,rfl,ak,am,ax,Y⟩:=h1;refine⟨b,off,G,ck,rfl,ab,?_,?_,?_,?_,?_,Y,ak,am,ax⟩;·exact hc _ _ (h2 0 (by omega))
 ·rw[bP];exact hc _ _ (h2 1 (by omega))
 ·rw[bP];exact hc _ _ (h2 2 (by omega))
 ·rw[bP];exact hc _ _ (h2 3 (by omega))
 ·rw[bP];exact hc _ _ (h2 4 (by omega))
structure jr where
 aR:List (Int×Int)
 cost:Int
 bM:List (List Int)
instance:Inhabited jr:=⟨⟨[],0,[]⟩⟩
def lL(h:Hp)(x:jr)(cs:List Value):Prop:=∃ap cp ar cr,cs=[ag ap x.aR.length cp,af ae x.cost,ag ar x.bM.length cr]/\aG x.cost/\jp h (ag ap x.aR.length cp) x.aR/\gP h (ag ar x.bM.length cr) x.bM
theorem lL.mono{h h':Hp}(G:h.le h'){n:jr}{cs:List Value}(e:lL h n cs):lL h' n cs:=by obtain⟨a,c,a',c',rfl,h1,h2,J⟩:=e;exact⟨a,c,a',c',rfl,h1,h2.mono G,J.mono G⟩
theorem lL.len{h:Hp}(n:jr)(cs:List Value)(e:lL h n cs):cs.length=3:=by obtain⟨a,c,a',c',rfl,_⟩:=e;rfl
structure dY where
 a:Int
 b:Int
 cost:Int
 kids:jr
instance:Inhabited dY:=⟨⟨0,0,0,default⟩⟩
def kN(h:Hp)(x:dY)(cs:List Value):Prop:=∃r,cs=[af ae x.a,af ae x.b,af ae x.cost]++r/\aG x.a/\aG x.b/\aG x.cost/\lL h x.kids r
theorem kN.mono{h h':Hp}(O:h.le h'){n:dY}{cs:List Value}(e:kN h n cs):kN h' n cs:=by obtain⟨r,rfl,h1,h2,G,J⟩:=e;exact⟨r,rfl,h1,h2,G,J.mono O⟩
theorem kN.len{h:Hp}(n:dY)(cs:List Value)(e:kN h n cs):cs.length=6:=by obtain⟨r,rfl,h1,h2,J,G⟩:=e;simp[lL.len _ _ G]
def mF(h:Hp)(v:Value)(l:List dY):Prop:=∃cs,Sl h v l.length 6 cs/\aJ (kN h) l cs
theorem mF.mono{h h':Hp}(G:h.le h'){v:Value}{l:List dY}(s:mF h v l):mF h' v l:=by obtain⟨cs,h1,h2⟩:=s;exact⟨cs,h1.mono G,h2.mono fun _ _ r=>r.mono G⟩
structure kd where
 aR:List (Int×Int)
 cost:Int
 gT:Bool
 a7:Int
 proof:List dY
def Lk(h:Hp)(v:Value)(x:kd):Prop:=∃ap cp ar cr,v=aq #[ag ap x.aR.length cp,af ae x.cost,ay x.gT,af ae x.a7,ag ar x.proof.length cr]/\aG x.cost/\aG x.a7/\jp h (ag ap x.aR.length cp) x.aR/\mF h (ag ar x.proof.length cr) x.proof
instance:Inhabited kd:=⟨⟨[],0,false,0,[]⟩⟩
def C0(h:Hp)(v:Value)(x:jr):Prop:=∃cs,v=aq cs.toArray/\lL h x cs
theorem fP:eZ ai 34 3 1 8 [af ae 0]:=
 .mk' (zv:=af ae 0) Tryz.underlying34 (by kernel_rfl) rfl rfl (by decide) (by decide)
theorem q3:eZ ai 73 79 2 16 [af ae 0,af ae 0]:=
 .mk' (zv:=aq #[af ae 0,af ae 0]) Tryz.underlying73 (by kernel_rfl) rfl rfl (by decide) (by decide)
theorem sZ:eZ ai 123 34 1 24 [ag none 0 0]:=
 .mk' (zv:=ag none 0 0) Tryz.underlying123 (by kernel_rfl) rfl rfl (by decide) (by decide)
theorem Ll:eZ ai 176 179 5 64 [af ae 0,ah ⟨#[]⟩,af ae 0,ag none 0 0,af ae 0]:=
 .mk' (zv:=aq #[af ae 0,ah ⟨#[]⟩,af ae 0,ag none 0 0,af ae 0]) Tryz.underlying176 (by kernel_rfl) rfl rfl (by decide) (by decide)
theorem iJ:eZ ai 22 26 4 72 [af ae 0,ah ⟨#[]⟩,ag none 0 0,ag none 0 0]:=
 .mk' (zv:=aq #[af ae 0,ah ⟨#[]⟩,ag none 0 0,ag none 0 0]) Tryz.underlying22 (by kernel_rfl) rfl rfl (by decide) (by decide)
theorem Dp:eZ ai 74 140 6 80 [af ae 0,af ae 0,af ae 0,ag none 0 0,af ae 0,ag none 0 0]:=
 .mk' (zv:=aq #[af ae 0,af ae 0,af ae 0,ag none 0 0,af ae 0,ag none 0 0]) Tryz.underlying74 (by kernel_rfl) rfl rfl (by decide) (by decide)
def Hp.add(h:Hp)(g:Nat)(c:Array Value):Hp:=fun b=>if b=g then some c else h b
theorem Hp.eG{h:Hp}{g:Nat}(c:Array Value)(J:h g=none):h.le (h.add g c):=fun b x G=>by
 unfold Hp.add;split;·rename_i e;subst e;rw[J]at G;cases G
 ·exact G
theorem ao.add{h:Hp}{w:World}{g:Nat}{c:Array Value}(J:ao h w)(hc:bi w g=some c):ao (h.add g c) w:=fun b x G=>by
 unfold Hp.add at G;split at G;·rename_i e;subst e;simp only[aC]at G;subst G;exact hc
 ·exact J b x G
theorem Ow.giveUp{w:World}{h:Hp}{B:Nat}{e:TypeId}{k:Nat}{v:Value}{n:Nat}{xs:List Value}(o:Ow w h B e k v n xs)(G:ao h w)(hn:n<=140737488355328):∃h',ao h' w/\h.le h'/\(∀b,(∀g,v.ownBlock=some g->b≠g)->h' b=h b)/\Sl h' v n k xs:=by
 have hf:=o.free;rcases o.row with⟨h1,⟨rfl,rfl⟩|⟨g',aj,J,rfl,O,Y,ax,ak,am,ab⟩⟩;·exact⟨h,G,Hp.le_refl _,fun _ _=>rfl,⟨_,_,rfl,hn,h1,.inl rfl⟩⟩
 ·refine⟨h.add g' J,G.add (by simp[bi,Y]),Hp.eG _ (hf g' rfl),fun b O=> ?_,⟨_,_,rfl,hn,h1,.inr ⟨g',0,J,rfl,?_,?_⟩⟩⟩;·unfold Hp.add;rw[if_neg (O g' rfl)]
  ·unfold Hp.add;rw[if_pos rfl]
  ·intro i G;rw[<-ab,vD,if_pos G,cO];simp
def dC:List Tree->Nat->List Int
 |[],_=>[]
 |t::ts,n=>(n:Int)::dC ts (n+t.size)
mutual
def ej:Tree->Int->Nat->List aB
 | .node k s _ ks,parent,at_=>⟨k,s,parent,dC ks (at_+1),ax ks+1⟩::eJ ks at_ (at_+1)
def eJ:List Tree->Nat->Nat->List aB
 |[],_,_=>[]
 |t::ts,p,n=>ej t p n++eJ ts p (n+t.size)
end
def aO(t:Tree):List aB:=ej t (-1) 0
theorem w7(t:Tree)(p:Int)(n:Nat):ej t p n=⟨t.kind,t.text,p,dC t.kids (n+1),t.size⟩::eJ t.kids n (n+1):=by cases t;simp[ej,Tree.kind,Tree.text,Tree.kids,Tree.size]
theorem w8(t:Tree)(ts:List Tree)(p n:Nat):eJ (t::ts) p n=ej t p n++eJ ts p (n+t.size):=by rw[eJ]
mutual
theorem lN:∀(t:Tree) (p:Int) (n:Nat),(ej t p n).length=t.size
 | .node k s l G,p,n=>by rw[ej,Tree.size,bF,tr]
theorem tr:∀(ts:List Tree) (p n:Nat),(eJ ts p n).length=ax ts
 |[],_,_=>by rw[eJ,ax];rfl
 |t::ts,p,n=>by rw[eJ,ax,cI,lN,tr]
end
theorem nJ(t:Tree):(aO t).length=t.size:=lN t _ _
theorem Dq(ts:List Tree)(n:Nat):(dC ts n).length=ts.length:=by
 induction ts generalizing n with
 |nil=>rfl
 |cons t ts G=>simp[dC,G]
theorem eY(ts:List Tree)(k:Nat)(G:k<ts.length):ax (ts.take (k+1))=ax (ts.take k)+ts[k].size:=by
 induction ts generalizing k with
 |nil=>simp at G
 |cons t ts J=>
  cases k with
  |zero=>simp[ax]
  |succ k=>simp only[fl,ax,dV];rw[J k (by simpa using G)];omega
theorem jK(ts:List Tree)(k:Nat):ax (ts.take k)<=ax ts:=by
 induction ts generalizing k with
 |nil=>simp
 |cons t ts G=>
  cases k with
  |zero=>simp[ax]
  |succ k=>simp only[fl,ax];have:=G k;omega
theorem w9(ts:List Tree):ts.length<=ax ts:=by
 induction ts with
 |nil=>simp
 |cons t ts G=>rw[gR,bF];have:=t.size_eq;omega
theorem Dr(ts:List Tree)(n j:Nat)(hj:j<ts.length):dC (ts.take (j+1)) n=dC (ts.take j) n++[((n+ax (ts.take j):Nat):Int)]:=by
 induction ts generalizing n j with
 |nil=>simp at hj
 |cons t ts G=>
  cases j with
  |zero=>simp[dC,ax]
  |succ j=>simp only[fl,dC,ax,List.cons_append];rw[G (n+t.size) j (by simpa using hj)];simp only[bP]
theorem Ds(ts:List Tree)(p n j:Nat)(hj:j<ts.length):eJ (ts.take (j+1)) p n=eJ (ts.take j) p n++ej ts[j] p (n+ax (ts.take j)):=by
 induction ts generalizing n j with
 |nil=>simp at hj
 |cons t ts G=>
  cases j with
  |zero=>simp[eJ,ax]
  |succ j=>simp only[fl,eJ,ax,dV];rw[G (n+t.size) j (by simpa using hj)];simp only[bP,fI]
theorem xa(ts:List Tree)(n:Nat)(x:Int)(hx:x∈dC ts n):(n:Int)<=x/\x<n+ax ts:=by
 induction ts generalizing n with
 |nil=>simp[dC]at hx
 |cons t ts G=>
  simp only[dC,b8]at hx;have hs:0<t.size:=by have:=t.size_eq;omega
  rw[gR];rcases hx with rfl|hx;·omega
  ·have:=G (n+t.size) hx;omega
def bt(s:ByteArray)(i:Nat):Int:=((s.data.toList.getD i 0).toNat:Int)
def Kh(c:Int):Bool:=c==9||c==10||c==13||c==32
def mG(c:Int):Bool:=Kh c||(decide (32<c)&&decide (c<127))
def fU(c:Int):Bool:=decide (97<=c)&&decide (c<=122)
def fc(c:Int):Bool:=decide (65<=c)&&decide (c<=90)
def ey(c:Int):Bool:=decide (48<=c)&&decide (c<=57)
def eI(c:Int):Bool:=fU c||fc c
def cn(c:Int):Bool:=eI c||ey c||decide (c=95)
def di(f:Int->Bool)(s:ByteArray)(i:Nat):Nat:=((s.data.toList.drop i).takeWhile fun c=>f (c.toNat:Int)).length
theorem nH{f:Int->Bool}{s:ByteArray}{i n:Nat}(hn:i+n<=s.size)(h1:∀k,k<n->f (bt s (i+k))=true)(h2:i+n<s.size->f (bt s (i+n))=false):di f s i=n:=by
 unfold di;obtain⟨⟨l⟩⟩:=s;have hs:(qC ⟨l⟩).size=l.length:=rfl;rw[hs]at hn h2;unfold bt at h1 h2;dsimp only at h1 h2⊢;induction n generalizing i with
 |zero=>
  cases hd:l.drop i with
  |nil=>rfl
  |cons c r=>
   have G:i<l.length:=by
    rcases b7 i l.length with h|h;·exact h
    ·rw[List.drop_eq_nil_of_le h]at hd;cases hd
   have hc:l.getD i 0=c:=by have:=jh G;rw[hd]at this;simp only[ii]at this;rw[bb,aE G,this.1];rfl
   have:=h2 (by omega);rw[dz,hc]at this;rw[sC,this];rfl
 |succ n Y=>
  have G:i<l.length:=by omega
  rw[jh G,sC];have hc:l.getD i 0=l[i]:=by rw[bb,aE G];rfl
  have J:=h1 0 (by omega);rw[dz,hc]at J;rw[J]
  have:=Y (i:=i+1) (by omega) (fun k O=>by
   have e:i+1+k=i+(k+1):=by omega
   rw[e];exact h1 (k+1) (by omega)) (fun O=>by
   have e:i+1+n=i+(n+1):=by omega
   rw[e];exact h2 (by omega))
  simp only[if_true,bF,this]
theorem ei{s:ByteArray}{i:Nat}(h:i<s.size):((s[i]'h).toNat:Int)=bt s i:=by obtain⟨⟨l⟩⟩:=s;have G:i<l.length:=h;unfold bt;dsimp only;rw[bb,aE G];rfl
theorem wZ(w:World)(c:Int):Calls ai 87 #[af .u8 c] w fun e w'=>e= .returned (ay (Kh c))/\w=w':=by
 go_in;go_wp2_with fail;all_goals go_ret
 all_goals exact⟨by simp[Kh, *],rfl⟩
theorem oQ(w:World)(c:Int):Calls ai 175 #[af .u8 c] w fun e w'=>e= .returned (ay (fU c))/\w=w':=by
 go_in;go_wp2_with fail;all_goals go_ret
 all_goals exact⟨by simp_all[fU]<;>omega,rfl⟩
theorem w4(w:World)(c:Int):Calls ai 176 #[af .u8 c] w fun e w'=>e= .returned (ay (fc c))/\w=w':=by
 go_in;go_wp2_with fail;all_goals go_ret
 all_goals exact⟨by simp_all[fc]<;>omega,rfl⟩
theorem q2(w:World)(c:Int):Calls ai 127 #[af .u8 c] w fun e w'=>e= .returned (ay (ey c))/\w=w':=by
 go_in;go_wp2_with fail;all_goals go_ret
 all_goals exact⟨by simp_all[ey]<;>omega,rfl⟩
theorem tj(w:World)(c:Int):Calls ai 125 #[af .u8 c] w fun e w'=>e= .returned (ay (eI c))/\w=w':=by
 generalize G:fU c=bl;go_in;go_wp2_with fail;refine(oQ _ c).mono ?_;rintro e w1 ⟨rfl,rfl⟩;rw[G];cases bl
 ·go_wp2_with fail;refine(w4 _ c).mono ?_;rintro e w1 ⟨rfl,rfl⟩;go_wp2_with fail;all_goals go_ret
  all_goals exact⟨by simp_all[eI],rfl⟩
 ·go_wp2_with fail;all_goals go_ret
  all_goals exact⟨by simp_all[eI],rfl⟩
theorem w5(w:World)(c:Int):Calls ai 88 #[af .u8 c] w fun e w'=>e= .returned (ay (mG c))/\w=w':=by
 generalize G:Kh c=bl;go_in;go_wp2_with fail;refine(wZ _ c).mono ?_;rintro e w1 ⟨rfl,rfl⟩;rw[G];cases bl<;>go_wp2_with fail;all_goals go_ret
 all_goals exact⟨by simp_all[mG]<;>omega,rfl⟩
theorem xk:eZ ai 88 95 3 40 [af ae 0,ah ⟨#[]⟩,ah ⟨#[]⟩]:=
 .mk' (zv:=aq #[af ae 0,ah ⟨#[]⟩,ah ⟨#[]⟩]) Tryz.underlying88 (by kernel_rfl) rfl rfl (by decide) (by decide)
structure cU where
 kind:Int
 lead:ByteArray
 text:ByteArray
def ir(t:cU):List Value:=[af ae t.kind,ah t.lead,ah t.text]
end Go.Proofs.YtdplggpbgommnaaGreatDoor
