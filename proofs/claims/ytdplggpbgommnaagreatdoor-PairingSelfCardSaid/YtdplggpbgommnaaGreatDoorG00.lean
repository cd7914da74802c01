/- Memory: the part that does not change (h), rows that a call owns, and how a world goes on from another. -/
import Derived.Test.YtdplggpbgommnaaGreatDoorRows
import Derived.WalkSpells
import Derived.WalkLawsBesides
import Derived.Lib.Hide
open Array renaming getElem?_eq_none→iF
open ByteArray renaming mk→qC
open Go renaming heap_alloc_new→gL,madeCells→eS,maxLen→ew,run_underlying→gl,size_madeCells→sx,wpList→dI
open Go.Addr renaming add_lit→sw
open Go.Addr.mk renaming injEq→cx
open Go.Builtin renaming append_→Bv,firstCells→Bz,lenOf→Bw
open Go.IntKind renaming i64→ae
open Go.Proofs.Tryz renaming prog→ai
open Go.RowKit.Below renaming heap_alloc→fp,heap_setCell→cH,refl→aD
open Go.Value renaming agg→aq,bool→ay,int→af,ownBlock→bW,slice→ag,string→ah
open Go.Value.slice renaming injEq→bU
open Go.World renaming cell?_alloc_at→cJ,cell?_of_block→dc,setCell→ef
open Go.World.grownBy renaming refl→kC
open List renaming append_assoc→fI,drop_eq_getElem_cons→jh,eq_nil_of_length_eq_zero→kA,getD_eq_getElem?_getD→bb,getElem?_eq_getElem→aE,getElem?_eq_none→gM,getElem?_take→vD,getElem_cons_succ→dV,length_append→cI,length_cons→bF,mem_cons→b8,takeWhile_cons→sC,take_of_length_le→iG,take_succ_cons→fl
open List.cons renaming injEq→ii
open Nat renaming add_assoc→bP,add_mul→gN,add_zero→dz,eq_zero_or_pos→et,le_mul_of_pos_right→vE,le_refl→an,le_trans→b5,lt_of_lt_of_le→bK,lt_or_ge→b7,mul_comm→vF,zero_add→cO,zero_le→aW
open Option.some renaming injEq→aC,inj→aU
set_option maxRecDepth 100000
namespace Go.Proofs.YtdplggpbgommnaaGreatDoor
open Go.RowKit
theorem _root_.Go.RowKit.Below.drewN{B:Nat}{a w:World}(h:Below B a w)(n:Nat):Below B a (w.drewN n):=⟨h.os,h.tape,h.output,h.size,h.block⟩
abbrev Hp:=Nat→Option (Array Value)
def bi(w:World)(b:Nat):Option (Array Value):=
 match w.heap[b]?with
 |some (.cells c _ _)=>some c
 |_=>none
theorem cD{w:World}{b:Nat}{c:Array Value}(h:bi w b=some c):b<w.heap.size:=by
 rcases b7 b w.heap.size with A|A;·exact A
 ·simp[bi,iF A]at h
theorem pH{w:World}{b:Nat}{c:Array Value}(h:bi w b=some c)(o:Nat):w.cell? ⟨b,o,none⟩=c[o]? :=by
 unfold bi at h;split at h;·rename_i c' e f A;simp only[aC]at h;subst h;simp[World.cell?,A]
 ·simp at h
theorem oO{w w':World}{b:Nat}(h:w'.heap[b]? =w.heap[b]?):bi w' b=bi w b:=by simp[bi,h]
def ao(h:Hp)(w:World):Prop:=∀b c,h b=some c→bi w b=some c
def Hp.le(h h':Hp):Prop:=∀b c,h b=some c→h' b=some c
theorem Hp.le_refl(h:Hp):h.le h:=fun _ _ x=>x
theorem Hp.le_trans{a b c:Hp}(h:a.le b)(k:b.le c):a.le c:=fun _ _ x=>k _ _ (h _ _ x)
structure St(B:Nat)(h0:Hp)(w0:World)(h:Hp)(w:World):Prop where
 below:Below B w0 w
 I:ao h w
 le:h0.le h
 aI:∀b,b<B→h b=h0 b
 base:B≤w0.heap.size
theorem St.refl{h:Hp}{w:World}(A:ao h w):St w.heap.size h w h w:=⟨aD _ _,A,Hp.le_refl _,fun _ _=>rfl,an _⟩
theorem St.dN{h:Hp}{w:World}(E:ao h w){B:Nat}(A:B≤w.heap.size):St B h w h w:=⟨aD _ _,E,Hp.le_refl _,fun _ _=>rfl,A⟩
theorem St.size{B:Nat}{A h:Hp}{w0 w:World}(s:St B A w0 h w):B≤w.heap.size:=b5 s.base s.below.size
theorem St.gq{B:Nat}{A h:Hp}{w0 w:World}(s:St B A w0 h w):ao A w:=fun b c E=>s.I b c (s.le b c E)
theorem ao.U{h:Hp}{w w':World}(E:ao h w)(G:∀b c,h b=some c→w'.heap[b]? =w.heap[b]?):ao h w':=fun b c A=>by rw[oO (G b c A)];exact E b c A
theorem ao.alloc{h:Hp}{w:World}(A:ao h w)(o:Obj):ao h (w.alloc o):=
 A.U fun b _ E=>fp _ _ _ (cD (A b _ E))
theorem ao.drew{h:Hp}{w:World}(A:ao h w):ao h w.drew:=A
theorem ao.drewN{h:Hp}{w:World}(A:ao h w)(n:Nat):ao h (w.drewN n):=A
theorem ao.below{h:Hp}{w w':World}(A:ao h w)(E:Below w.heap.size w w'):ao h w':=
 A.U fun b _ G=>E.block b (cD (A b _ G))
theorem St.drew{B:Nat}{A h:Hp}{w0 w:World}(s:St B A w0 h w):St B A w0 h w.drew:=⟨s.below.drew,s.I,s.le,s.aI,s.base⟩
theorem St.drewN{B:Nat}{A h:Hp}{w0 w:World}(s:St B A w0 h w)(n:Nat):St B A w0 h (w.drewN n):=⟨s.below.drewN n,s.I,s.le,s.aI,s.base⟩
theorem St.alloc{B:Nat}{A h:Hp}{w0 w:World}(s:St B A w0 h w)(o:Obj):St B A w0 h (w.alloc o):=⟨s.below.alloc s.size o,s.I.alloc o,s.le,s.aI,s.base⟩
theorem St.setCell{B:Nat}{A h:Hp}{w0 w:World}(s:St B A w0 h w){p:Addr}(M:B≤p.block)(G:h p.block=none)(v:Value):St B A w0 h (w.setCell p v):=
 ⟨s.below.setCell M v,s.I.U fun b c E=>cH _ _ _ _ (fun e=>by subst e;simp[G]at E),s.le,s.aI,s.base⟩
theorem St.grown{B:Nat}{A h:Hp}{w0 w w':World}{O:Option Nat}(s:St B A w0 h w)(G:w.grownBy w' O)(M:∀k,O=some k→B≤k∧h k=none):St B A w0 h w':=
 ⟨s.below.grown G s.size (fun k e=>(M k e).1),s.I.U fun b c E=>G.block b (cD (s.I b c E)) (fun e=>by have:=(M b e.symm).2;simp[this]at E),s.le,s.aI,s.base⟩
theorem St.call{B:Nat}{A h h':Hp}{w0 w w':World}(s:St B A w0 h w)(t:St w.heap.size h w h' w'):St B A w0 h' w':=
 ⟨s.below.trans (t.below.mono s.size),t.I,Hp.le_trans s.le t.le,fun b E=>(t.aI b (bK E s.size)).trans (s.aI b E),s.base⟩
theorem St.pI{h:Hp}{w w':World}(E:ao h w)(A:Below w.heap.size w w'):St w.heap.size h w h w':=⟨A,E.below A,Hp.le_refl _,fun _ _=>rfl,an _⟩
theorem St.same{B:Nat}{A h:Hp}{w0 w w':World}(s:St B A w0 h w)(E:Below w.heap.size w w'):St B A w0 h w':=s.call (St.pI s.I E)
def Hp.fr(h:Hp)(B:Nat)(w:World):Hp:=fun b=>if b<B then h b else bi w b
theorem Hp.gQ{B:Nat}{h:Hp}{w:World}(E:ao h w):h.le (h.fr B w):=fun b c A=>by
 unfold Hp.fr;split;·exact A
 ·exact E b c A
theorem ao.fr{B:Nat}{h:Hp}{w:World}(E:ao h w):ao (h.fr B w) w:=fun b c A=>by
 unfold Hp.fr at A;split at A;·exact E b c A
 ·exact A
theorem St.fr{B:Nat}{A h:Hp}{w0 w:World}(s:St B A w0 h w):St B A w0 (h.fr B w) w:=
 ⟨s.below,s.I.fr,Hp.le_trans s.le (Hp.gQ s.I),fun b E=>by unfold Hp.fr;rw[if_pos E];exact s.aI b E,s.base⟩
def Sl(h:Hp)(v:Value)(n k:Nat)(cs:List Value):Prop:=
 ∃a cap,v=ag a n cap∧n≤140737488355328∧cs.length=n*k∧
  (n=0∨∃b off c,a=some ⟨b,off,none⟩∧h b=some c∧∀i,i<n*k→c[off+i]? =cs[i]?)
theorem Sl.mono{h h':Hp}(O:h.le h'){v:Value}{n k:Nat}{cs:List Value}(s:Sl h v n k cs):Sl h' v n k cs:=by
 obtain⟨a,E,rfl,h1,h2,A⟩:=s;refine⟨a,E,rfl,h1,h2,?_⟩;rcases A with A|⟨b,Y,c,rfl,G,M⟩;·exact .inl A
 ·exact .inr ⟨b,Y,c,rfl,O _ _ G,M⟩
theorem Sl.nil(h:Hp)(k:Nat)(a:Option Addr)(A:Nat):Sl h (ag a 0 A) 0 k []:=⟨a,A,rfl,aW _,by simp,.inl rfl⟩
theorem Sl.shape{h:Hp}{v:Value}{n k:Nat}{cs:List Value}(s:Sl h v n k cs):∃a A,v=ag a n A∧n≤140737488355328:=by obtain⟨a,A,rfl,h1,_⟩:=s;exact⟨a,A,rfl,h1⟩
theorem Sl.len{h:Hp}{v:Value}{n k:Nat}{cs:List Value}(s:Sl h v n k cs):n≤140737488355328∧cs.length=n*k:=by obtain⟨a',A,G,h1,h2,E⟩:=s;exact⟨h1,h2⟩
theorem Sl.cells{h:Hp}{a:Option Addr}{n m ab k:Nat}{cs:List Value}(ad:Sl h (ag a m ab) n k cs){w:World}(Y:ao h w)(ak:0<n):∃b A,a=some ⟨b,A,none⟩∧b<w.heap.size∧∀i v,cs[i]? =some v→w.cell? ⟨b,A+i,none⟩=some v:=by
 obtain⟨a',aj,O,h1,h2,G⟩:=ad;simp only[bU]at O;obtain⟨rfl,rfl,rfl⟩:=O;rcases G with G|⟨b,A,c,rfl,M,ac⟩;·omega
 ·refine⟨b,A,rfl,cD (Y b c M),fun i v E=> ?_⟩
  have:i<cs.length:=by
   rcases b7 i cs.length with h|h;·exact h
   ·rw[gM h]at E;simp at E
  rw[pH (Y b c M),ac i (by omega),E]
structure Ow(w:World)(h:Hp)(B:Nat)(e:TypeId)(k:Nat)(v:Value)(n:Nat)(xs:List Value):Prop where
 row:w.ownsRow B e k v n xs
 free:∀g,v.ownBlock=some g→h g=none
theorem Ow.len{w:World}{h:Hp}{B:Nat}{e:TypeId}{k:Nat}{v:Value}{n:Nat}{xs:List Value}(o:Ow w h B e k v n xs):xs.length=n*k:=o.row.1
theorem Ow.nil(w:World)(h:Hp)(B:Nat)(e:TypeId)(k:Nat):Ow w h B e k (ag none 0 0) 0 []:=⟨⟨by simp,.inl ⟨rfl,rfl⟩⟩,fun _ A=>by simp[bW]at A⟩
theorem Ow.lt{w:World}{h:Hp}{B:Nat}{e:TypeId}{k:Nat}{v:Value}{n:Nat}{xs:List Value}(o:Ow w h B e k v n xs):∀g,v.ownBlock=some g→B≤g∧g<w.heap.size:=by
 intro g A;rcases o.row.2 with⟨rfl,rfl⟩|⟨M,Y,ab,rfl,O,G,_⟩;·simp[bW]at A
 ·simp only[bW,aC]at A;subst A;refine⟨O,?_⟩;rcases b7 M w.heap.size with E|E;·exact E
  ·rw[iF E]at G;simp at G
theorem Ow.U{w w':World}{h h':Hp}{B:Nat}{e:TypeId}{k:Nat}{v:Value}{n:Nat}{xs:List Value}(o:Ow w h B e k v n xs)(ac:∀g,v.ownBlock=some g→w'.heap[g]? =w.heap[g]?)(ab:∀g,v.ownBlock=some g→h' g=h g):Ow w' h' B e k v n xs:=by
 refine⟨⟨o.row.1,?_⟩,fun g E=>by rw[ab g E];exact o.free g E⟩;rcases o.row.2 with ad|⟨A,G,M,rfl,O,Y,r⟩;·exact .inl ad
 ·exact .inr ⟨A,G,M,rfl,O,by rw[ac A rfl];exact Y,r⟩
section
variable {w w':World} {h h':Hp} {B:Nat} {e:TypeId} {k:Nat} {v:Value} {n:Nat} {xs:List Value}
theorem Ow.alloc(o:Ow w h B e k v n xs)(b:Obj):Ow (w.alloc b) h B e k v n xs:=o.U (fun g A=>fp _ _ _ (o.lt g A).2) (fun _ _=>rfl)
theorem Ow.drew(o:Ow w h B e k v n xs):Ow w.drew h B e k v n xs:=o.U (fun _ _=>rfl) (fun _ _=>rfl)
theorem Ow.drewN(o:Ow w h B e k v n xs)(m:Nat):Ow (w.drewN m) h B e k v n xs:=o.U (fun _ _=>rfl) (fun _ _=>rfl)
theorem Ow.setCell(o:Ow w h B e k v n xs){p:Addr}(E:v.ownBlock≠some p.block)(u:Value):Ow (w.setCell p u) h B e k v n xs:=
 o.U (fun g A=>cH _ _ _ _ (fun e=>E (by rw[A,e]))) (fun _ _=>rfl)
theorem Ow.grown{E:Option Nat}(o:Ow w h B e k v n xs)(G:w.grownBy w' E)(M:∀g,v.ownBlock=some g→E≠some g):Ow w' h B e k v n xs:=
 o.U (fun g A=>G.block g (o.lt g A).2 (fun e=>M g A e.symm)) (fun _ _=>rfl)
theorem Ow.call(o:Ow w h B e k v n xs)(t:St w.heap.size h w h' w'):Ow w' h' B e k v n xs:=
 o.U (fun g A=>t.below.block g (o.lt g A).2) (fun g A=>t.aI g (o.lt g A).2)
theorem Ow.same(o:Ow w h B e k v n xs)(A:Below w.heap.size w w'):Ow w' h B e k v n xs:=
 o.U (fun g E=>A.block g (o.lt g E).2) (fun _ _=>rfl)
theorem Ow.base(o:Ow w h B e k v n xs){B':Nat}(O:B'≤B):Ow w h B' e k v n xs:=by
 refine⟨⟨o.row.1,?_⟩,o.free⟩;rcases o.row.2 with M|⟨G,A,E,rfl,Y,r⟩;·exact .inl M
 ·exact .inr ⟨G,A,E,rfl,by omega,r⟩
theorem Ow.shape(o:Ow w h B e k v n xs):∃a A,v=ag a n A:=by
 rcases o.row.2 with⟨rfl,rfl⟩|⟨G,A,E,rfl,_⟩;·exact⟨_,_,rfl⟩
 ·exact⟨_,_,rfl⟩
theorem Ow.of{A:Option Nat}(o:w'.ownsRow B e k v n xs)(G:ao h w)(M:∀g,A=some g→h g=none)(O:∀g,v.ownBlock=some g→w.heap.size≤g∨A=some g):Ow w' h B e k v n xs:=
 ⟨o,fun g E=>by
  rcases O g E with h1|h1
  ·cases hh:h g with
   |none=>rfl
   |some c=>have:=cD (G g c hh);omega
  ·exact M g h1⟩
theorem Ow.sl(o:Ow w h B e k v n xs)(A:n≤140737488355328):Sl (h.fr B w) v n k xs:=by
 rcases o.row with⟨h1,⟨rfl,rfl⟩|⟨G,ab,E,rfl,ac,M,ak,ad,aj,Y⟩⟩;·exact⟨_,_,rfl,A,h1,.inl rfl⟩
 ·refine⟨_,_,rfl,A,h1,.inr ⟨G,0,E,rfl,?_,?_⟩⟩;·unfold Hp.fr;rw[if_neg (by omega)];simp[bi,M]
  ·intro i O;rw[←Y,vD,if_pos O,cO];simp
theorem Ow.cell{a:Option Addr}{Y:Nat}(o:Ow w h B e k (ag a n Y) n xs)(aG:0<n):∃g,a=some ⟨g,0,none⟩∧B≤g∧g<w.heap.size∧h g=none∧(∀i u,xs[i]? =some u→w.cell? ⟨g,i,none⟩=some u)∧(∀i,w.frozen? ⟨g,i,none⟩=false):=by
 have ad:=o.lt;have ac:=o.free;rcases o.row with⟨h1,⟨M,rfl⟩|⟨E,ak,am,M,ab,O,aJ,ao,ax,aj⟩⟩;·omega
 ·simp only[bU]at M;obtain⟨rfl,-,rfl⟩:=M;refine⟨E,rfl,ab,(ad E rfl).2,ac E rfl,fun i u A=> ?_,fun i=>by simp[World.frozen?,O]⟩
  have aB:i<xs.length:=by
   rcases b7 i xs.length with G|G;·exact G
   ·rw[gM G]at A;simp at A
  rw[←aj,vD,if_pos (by omega)]at A;simp only[World.cell?,O];simpa using A
end
theorem Ow.set{w:World}{h:Hp}{B:Nat}{e:TypeId}{k g n E:Nat}{xs:List Value}(o:Ow w h B e k (ag (some ⟨g,0,none⟩) n E) n xs)(i:Nat)(u:Value)(ao:i<n*k):Ow (w.setCell ⟨g,i,none⟩ u) h B e k (ag (some ⟨g,0,none⟩) n E) n (xs.set i u):=by
 have ab:=o.free;rcases o.row with⟨h1,⟨A,rfl⟩|⟨am,ak,G,A,M,ac,ad,O,Y,aj⟩⟩;·simp at A
 ·simp only[bU,aC,cx,and_true,true_and]at A;obtain⟨rfl,rfl⟩:=A;refine⟨⟨by simpa using h1,.inr ⟨g,E,G.setIfInBounds i u,rfl,M,?_,ad,O,by simpa using Y,?_⟩⟩,ab⟩;·simp[ef,Array.getElem?_modify,ac]
  ·rw[←aj];simp only[Array.toList_setIfInBounds];rw[List.take_set]
structure eZ(P:Program)(t e:TypeId)(size bytes:Nat)(z:List Value):Prop where
 kL:P.underlying t=some (.slice e)
 lJ:∃i zv,P.info? e=some i∧i.zero=some zv∧i.size=size∧i.bytes=bytes∧zv.cells=z.toArray
 wO:z.length=size
 pos:0<size
 qR:0<bytes
theorem eZ.mk'{P:Program}{t e:TypeId}{A bytes:Nat}{zv:Value}{z:List Value}(h1:P.underlying t=some (.slice e))(h2:(P.info? e).map (fun i=>(i.zero,i.size,i.bytes))=some (some zv,A,bytes))(E:zv.cells=z.toArray)(G:z.length=A)(M:0<A)(O:0<bytes):eZ P t e A bytes z:=by obtain⟨i,a,b,c,d⟩:=info_parts h2;exact⟨h1,⟨i,zv,a,b,c,d,E⟩,G,M,O⟩
theorem ft{P:Program}{t e:TypeId}{M bytes:Nat}{z:List Value}(E:eZ P t e M bytes z){ops:Array Oper}{rest:List Oper}{o:Oper}{a:Act}{Q:Exit→Act→World→Prop}(am:o.guard=none)(s x:Operand)(aJ:o.op= .call {callee:= .builtin .append,args:= #[s,x],argTypes:= #[t,t]}){B:Nat}{ab h:Hp}{w0 w:World}(st:St B ab w0 h w)(v:Value)(n:Nat)(xs:List Value)(aL:a.eval s=v)(O:Ow w h B e M v n xs)(Y:Addr)(m c:Nat)(news:List Value)(aO:a.eval x=ag (some Y) m c)(ax:news.length=m*M)(aG:∀j u,news[j]? =some u→w.cell? (Y.add j)=some u)(h1:∀u∈news,u.oneCell'=true)(aj:(n+m)*bytes≤140737488355328)(K:∀v' w',St B ab w0 h w'→Ow w' h B e M v' (n+m) (xs++news)→w.grownBy w' v.ownBlock→(v'.ownBlock=v.ownBlock∨v'.ownBlock=some w.heap.size)→dI P ops Q rest (a.put o.dst v') w'):dI P ops Q (o::rest) a w:=by
 obtain⟨i,zv,ao,hz,aN,ak,aP⟩:=E.lJ;have aB:n+m≤ew:=by have:=vE (n+m) E.qR;simp only[ew];omega
 refine wpList_append_own_at w am s x t aJ B e i zv M bytes E.kL ao hz aN ak (by rw[aP];simpa using E.wO) E.pos v n xs aL O.row Y m c news aO ax aG h1 aB aj st.size ?_;intro v' w' h2 ac _ A;have aM:St B ab w0 h w':=st.grown ac (fun k ad=>⟨(O.lt k ad).1,O.free k ad⟩);refine K v' w' aM (Ow.of h2 st.I (fun g G=>O.free g G) ?_) ac A;intro g G;rcases A with A|A;·exact .inr (by rw[←A,G])
 ·rw[A]at G;exact .inl (by simp only[aC]at G;omega)
theorem s9{P:Program}{t e:TypeId}{G bytes:Nat}{z:List Value}(A:eZ P t e G bytes z){ops:Array Oper}{rest:List Oper}{o:Oper}{a:Act}{Q:Exit→Act→World→Prop}(ak:o.guard=none)(s x:Operand)(ao:o.op= .call {callee:= .builtin .append,args:= #[s,x],argTypes:= #[t,t]}){B:Nat}{aj h:Hp}{w0 w:World}(st:St B aj w0 h w)(v:Value)(n:Nat)(xs:List Value)(ax:a.eval s=v)(ac:Ow w h B e G v n xs)(u:Value)(m:Nat)(news:List Value)(aB:a.eval x=u)(E:Sl h u m G news)(h1:∀u∈news,u.oneCell'=true)(aL:(n+m)*bytes≤140737488355328)(K:∀v' w',St B aj w0 h w'→Ow w' h B e G v' (n+m) (xs++news)→w.grownBy w' v.ownBlock→(v'.ownBlock=v.ownBlock∨v'.ownBlock=some w.heap.size)→dI P ops Q rest (a.put o.dst v') w'):dI P ops Q (o::rest) a w:=by
 obtain⟨M,ad,rfl,_⟩:=E.shape;have Y:=E.len.2;cases M with
 |some M=>
  refine ft A ak s x ao st v n xs ax ac M m ad news aB Y ?_ h1 aL K;intro j q hj
  have ab:0<m:=by
   rcases et m with h|h;·subst h;have:news=[]:=kA (by simpa using Y);subst this;simp at hj
   ·exact h
  obtain⟨b,aQ,O,_,aM⟩:=E.cells st.I ab;obtain rfl:=aU O;rw[sw];exact aM j q hj
 |none=>
  have ab:m=0:=by
   rcases et m with h|h;·exact h
   ·obtain⟨b,aQ,O,_⟩:=E.cells st.I h;simp at O
  subst ab;have aN:news=[]:=kA (by simpa using Y);subst aN;obtain⟨i,zv,am,hz,aY,aX,aZ⟩:=A.lJ
  have aP:∀aG,(Bv #[t,t] aG #[v,ag none 0 ad]).run P w= .ok v w:=by
   intro aG;rcases ac.row.2 with⟨rfl,rfl⟩|⟨g,aT,aV,rfl,_,_,aO,_⟩;·simp[Bv,gl A.kL,sizeOf,typeInfo,am,Bw,Bz]
   ·simp[Bv,gl A.kL,sizeOf,typeInfo,am,Bw,Bz,aO,storeCells]
  refine wpList_plain ak fun aS aJ=> ?_;unfold Oper.wp;simp[execOp,ao,resolve,invoke,builtin,ax,aB,aP,Result.andThen];exact aJ _ _ (K v w st (by simpa using ac) (kC _ _) (.inl rfl))
theorem bI{w:World}{h:Hp}(A:ao h w)(g:Nat)(E:w.heap.size≤g):h g=none:=by
 cases hh:h g with
 |none=>rfl
 |some c=>have:=cD (A g c hh);omega
theorem jk{P:Program}{t e:TypeId}{A bytes:Nat}{z:List Value}(E:eZ P t e A bytes z){ops:Array Oper}{rest:List Oper}{o:Oper}{a:Act}{Q:Exit→Act→World→Prop}(am:o.guard=none)(l c:Operand)(aJ:o.op=Op.makeSlice t l c){B:Nat}{G h:Hp}{w0 w:World}(st:St B G w0 h w)(Y O:IntKind)(L C:Int)(n:Nat)(aB:a.eval l=af Y L)(aj:a.eval c=af O C)(ac:L=(n:Int))(ab:C=(n:Int))(aN:n*bytes≤140737488355328)(K:∀w',St B G w0 h w'→Ow w' h B e A (ag (some ⟨w.heap.size,0,none⟩) n n) n (eS z.toArray (n*A)).toList→w.grownBy w' none→dI P ops Q rest (a.put o.dst (ag (some ⟨w.heap.size,0,none⟩) n n)) w'):dI P ops Q (o::rest) a w:=by
 obtain⟨i,zv,ao,hz,aL,ad,aM⟩:=E.lJ;have aG:n≤ew:=by have:=vE n E.qR;simp only[ew];omega
 refine wpList_make_full w am l c t aJ B e i zv A E.kL ao hz aL Y O L C n aB aj ac ab (by rw[ad,vF];omega) aG st.size ?_;intro w' h2 M;rw[aM]at h2;exact K w' (st.grown M (fun k ax=>by simp at ax)) ⟨h2,fun g ak=>bI st.I g (by simp[bW]at ak;omega)⟩ M
theorem CV{P:Program}{t e:TypeId}{E bytes:Nat}{z:List Value}(A:eZ P t e E bytes z){ops:Array Oper}{rest:List Oper}{o:Oper}{a:Act}{Q:Exit→Act→World→Prop}(ak:o.guard=none)(l c:Operand)(aG:o.op=Op.makeSlice t l c){B:Nat}{G h:Hp}{w0 w:World}(st:St B G w0 h w)(Y O:IntKind)(C:Int)(n:Nat)(ax:a.eval l=af Y 0)(ad:a.eval c=af O C)(ab:C=(n:Int))(aL:n*bytes≤140737488355328)(K:∀w',St B G w0 h w'→Ow w' h B e E (ag (some ⟨w.heap.size,0,none⟩) 0 n) 0 []→w.grownBy w' none→dI P ops Q rest (a.put o.dst (ag (some ⟨w.heap.size,0,none⟩) 0 n)) w'):dI P ops Q (o::rest) a w:=by
 obtain⟨i,zv,am,hz,aJ,ac,aM⟩:=A.lJ;have aB:n≤ew:=by have:=vE n A.qR;simp only[ew];omega
 refine wpList_make_own w ak l c t aG B e i zv E A.kL am hz aJ Y O C n ax ad ab (by rw[ac,vF];omega) aB st.size ?_;intro w' h2 M;exact K w' (st.grown M (fun k ao=>by simp at ao)) ⟨h2,fun g aj=>bI st.I g (by simp[bW]at aj;omega)⟩ M
theorem bA{n:Int}(h: -9223372036854775808≤n∧n≤9223372036854775807):ae.wrap n=n:=by rw[IntKind.wrap_i64];omega
theorem cK(w:World)(news:List Value)(T:TypeId)(b:Nat)(A:b=w.heap.size):∀j u,news[j]? =some u→(w.alloc (.cells news.toArray T)).cell? ((⟨b,0,none⟩:Addr).add j)=some u:=by intro j u E;subst A;rw[sw,cJ _ _ _ _ rfl];simpa using E
theorem cm(l:List Value)(h:l.all Value.oneCell'=true):∀u∈l,u.oneCell'=true:=List.all_eq_true.1 h
theorem mD{w w':World}{G:Option Nat}(A:w.grownBy w' G)(o:Obj):w.grownBy (w'.alloc o) G:=
 ⟨A.os,A.tape,A.output,by have:=A.size;simp;omega,fun k E M=>(fp _ _ _ (bK E A.size)).trans (A.block k E M)⟩
theorem pJ{w w':World}{G:Option Nat}(A:w.grownBy w' G){p:Addr}(E:G=some p.block∨w.heap.size≤p.block)(u:Value):w.grownBy (w'.setCell p u) G:=
 ⟨A.os,A.tape,A.output,by simpa[ef]using A.size,fun k O M=>(cH _ _ _ _ (fun e=>by subst e;rcases E with E|E;exact M E.symm;omega)).trans (A.block k O M)⟩
theorem kc{w w1 w2:World}{G row':Option Nat}(A:w.grownBy w1 G)(E:w1.grownBy w2 row')(Y:∀k,row'=some k→G=some k∨w.heap.size≤k):w.grownBy w2 G:=
 ⟨E.os.trans A.os,E.tape.trans A.tape,E.output.trans A.output,b5 A.size E.size,fun k M O=>(E.block k (bK M A.size) (fun e=>by
  rcases Y k e.symm with h|h;·exact O h.symm
  ·omega)).trans (A.block k M O)⟩
theorem qS{w w2:World}{cs:Array Value}{T:TypeId}{E:Obj}{A:Option Nat}(G:((w.alloc (.cells cs T)).alloc E).grownBy w2 A)(M:∀k,A=some k→k<w.heap.size)(i:Nat):w2.cell? ⟨w.heap.size,i,none⟩=cs[i]? :=by rw[dc (a:=⟨w.heap.size,i,none⟩) (G.block w.heap.size (by simp;omega) (fun e=>by have:=M _ e.symm;omega)),World.cell?_alloc_past _ _ _ (by simp),cJ _ _ _ _ rfl]
theorem ta{w w2:World}{cs:Array Value}{T:TypeId}{A:Option Nat}(E:(w.alloc (.cells cs T)).grownBy w2 A)(G:∀k,A=some k→k<w.heap.size)(i:Nat):w2.cell? ⟨w.heap.size,i,none⟩=cs[i]? :=by rw[dc (a:=⟨w.heap.size,i,none⟩) (E.block w.heap.size (by simp) (fun e=>by have:=G _ e.symm;omega)),cJ _ _ _ _ rfl]
theorem fS{w w0 A:World}{cs:Array Value}{T:TypeId}(G:w.alloc (.cells cs T)=w0)(E:Below w0.heap.size w0 A)(i:Nat):A.cell? ⟨w.heap.size,i,none⟩=cs[i]?∧A.frozen? ⟨w.heap.size,i,none⟩=false:=by subst G;rw[E.cell (by simp),E.frozen (by simp),cJ _ _ _ _ rfl,World.frozen?_alloc_at _ _ _ _ rfl];exact⟨rfl,rfl⟩
theorem CW{w:World}{h:Hp}(G:ao h w){B:Nat}(A:B≤w.heap.size)(z:Array Value)(n k:Nat)(e:TypeId)(M:n≤ew):Ow (w.alloc (.cells (eS z (n*k)) e)) h B e k (ag (some ⟨w.heap.size,0,none⟩) 0 n) 0 []:=
 ⟨⟨by simp,.inr ⟨w.heap.size,n,eS z (n*k),rfl,A,gL w _,aW _,M,by simp[sx],by simp⟩⟩,fun g E=>bI G g (by simp[bW]at E;omega)⟩
theorem CX{w:World}{h:Hp}(G:ao h w){B:Nat}(A:B≤w.heap.size)(z:Array Value)(n k:Nat)(e:TypeId)(M:n≤ew):Ow (w.alloc (.cells (eS z (n*k)) e)) h B e k (ag (some ⟨w.heap.size,0,none⟩) n n) n (eS z (n*k)).toList:=
 ⟨⟨by simp[sx],.inr ⟨w.heap.size,n,eS z (n*k),rfl,A,gL w _,an _,M,by simp[sx],iG (by simp[sx])⟩⟩,fun g E=>bI G g (by simp[bW]at E;omega)⟩
theorem oP{w:World}{h:Hp}(M:ao h w){B:Nat}(E:B≤w.heap.size)(cs:List Value)(n k:Nat)(e:TypeId)(O:n≤ew)(A:cs.length=n*k):Ow (w.alloc (.cells cs.toArray e)) h B e k (ag (some ⟨w.heap.size,0,none⟩) n n) n cs:=
 ⟨⟨A,.inr ⟨w.heap.size,n,cs.toArray,rfl,E,gL w _,an _,O,by simpa using A,iG (by simp;omega)⟩⟩,fun g G=>bI M g (by simp[bW]at G;omega)⟩
def aJ{α:Type}(R:α→List Value→Prop):List α→List Value→Prop
 |[],cs=>cs=[]
 |x::xs,cs=>∃a r,cs=a++r∧R x a∧aJ R xs r
theorem aJ.mono{α:Type}{R A:α→List Value→Prop}(E:∀x a,R x a→A x a):∀{l:List α} {cs:List Value},aJ R l cs→aJ A l cs
 |[],_,h=>h
 |_::_,_,⟨a,r,G,h1,h2⟩=>⟨a,r,G,E _ _ h1,aJ.mono E h2⟩
theorem aJ.append{α:Type}{R:α→List Value→Prop}:∀{l m:List α} {cs ds:List Value},aJ R l cs→aJ R m ds→aJ R (l++m) (cs++ds)
 |[],_,_,_,h,k=>by simp only[aJ]at h;subst h;simpa using k
 |_::_,_,_,_,⟨a,r,A,h1,h2⟩,k=>⟨a,r++_,by rw[A,fI],h1,aJ.append h2 k⟩
theorem aJ.one{α:Type}{R:α→List Value→Prop}{x:α}{a:List Value}(h:R x a):aJ R [x] a:=⟨a,[],by simp,h,rfl⟩
theorem aJ.length{α:Type}{R:α→List Value→Prop}(k:Nat)(A:∀x a,R x a→a.length=k):∀{l:List α} {cs:List Value},aJ R l cs→cs.length=l.length*k
 |[],_,h=>by simp only[aJ]at h;subst h;simp
 |_::l,_,⟨a,r,E,h1,h2⟩=>by subst E;simp only[cI,A _ _ h1,aJ.length k A h2,bF,gN];omega
theorem aJ.at{α:Type}{R:α→List Value→Prop}(k:Nat)(E:∀x a,R x a→a.length=k):∀{l:List α} {cs:List Value},aJ R l cs→∀i (G:i<l.length),∃a,R l[i] a∧∀j,j<k→cs[i*k+j]? =a[j]?
 |x::l,cs,⟨a,r,A,h1,h2⟩,0,_=>⟨a,h1,fun j hj=>by have:=E _ _ h1;rw[A,Nat.zero_mul,cO,List.getElem?_append_left (by omega)]⟩
 |x::l,cs,⟨a,r,A,h1,h2⟩,i+1,G=>by obtain⟨a',M,O⟩:=aJ.at k E h2 i (by simpa using G);refine⟨a',M,fun j hj=> ?_⟩;have:=E _ _ h1;rw[A,List.getElem?_append_right (by rw[this,gN];omega),←O j hj];congr 1;rw[this,gN];omega
theorem wP(l:List Int)(k:Nat)(A:k<l.length):(l.map (af ae))[k]? =some (af ae l[k]):=by simp[A]
def bV(p:Int×Int):List Value:=[af ae p.1,af ae p.2]
theorem qU(l:List (Int×Int)):(l.flatMap bV).length=l.length*2:=by
 induction l with
 |nil=>rfl
 |cons p l A=>simp only[List.flatMap_cons,cI,A,bV,bF,List.length_nil];omega
theorem mE(l:List (Int×Int))(k:Nat)(A:k<l.length):(l.flatMap bV)[k*2]? =some (af ae l[k].1)∧(l.flatMap bV)[k*2+1]? =some (af ae l[k].2):=by
 induction l generalizing k with
 |nil=>simp at A
 |cons p l E=>
  cases k with
  |zero=>exact⟨rfl,rfl⟩
  |succ k=>
   have:=E k (by simpa using A);have e:(k+1)*2=k*2+2:=by omega
   rw[e];exact this
def aG(x:Int):Prop:= -9223372036854775808≤x∧x≤9223372036854775807
def Ints(h:Hp)(v:Value)(l:List Int):Prop:=Sl h v l.length 1 (l.map (af ae))∧∀x∈l,aG x
def jp(h:Hp)(v:Value)(l:List (Int×Int)):Prop:=Sl h v l.length 2 (l.flatMap bV)∧∀x∈l,aG x.1∧aG x.2
theorem Ints.mono{h h':Hp}(A:h.le h'){v:Value}{l:List Int}(s:Ints h v l):Ints h' v l:=⟨s.1.mono A,s.2⟩
theorem jp.mono{h h':Hp}(A:h.le h'){v:Value}{l:List (Int×Int)}(s:jp h v l):jp h' v l:=⟨s.1.mono A,s.2⟩
def io(h:Hp)(l:List Int)(a:List Value):Prop:=∃ad cap,a=[ag ad l.length cap]∧Ints h (ag ad l.length cap) l
def gP(h:Hp)(v:Value)(ls:List (List Int)):Prop:=∃cs,Sl h v ls.length 1 cs∧aJ (io h) ls cs
theorem io.mono{h h':Hp}(G:h.le h'){l:List Int}{a:List Value}(s:io h l a):io h' l a:=by obtain⟨A,E,e,i⟩:=s;exact⟨A,E,e,i.mono G⟩
theorem io.len{h:Hp}(l:List Int)(a:List Value)(s:io h l a):a.length=1:=by obtain⟨A,E,rfl,_⟩:=s;rfl
theorem gP.mono{h h':Hp}(A:h.le h'){v:Value}{ls:List (List Int)}(s:gP h v ls):gP h' v ls:=by obtain⟨cs,h1,h2⟩:=s;exact⟨cs,h1.mono A,h2.mono fun _ _ r=>r.mono A⟩
theorem Ints.open{h:Hp}{v:Value}{l:List Int}(ad:Ints h v l):∃a E,v=ag a l.length E∧l.length≤140737488355328∧∀w,ao h w→0<l.length→∃b A,a=some ⟨b,A,none⟩∧b<w.heap.size∧∀k (G:k<l.length),w.cell? ⟨b,A+k,none⟩=some (af ae l[k]):=by obtain⟨s,aj⟩:=ad;obtain⟨a,E,rfl,ac⟩:=s.shape;refine⟨a,E,rfl,ac,fun w ab M=> ?_⟩;obtain⟨b,A,rfl,O,Y⟩:=s.cells ab M;exact⟨b,A,rfl,O,fun k G=>Y _ _ (wP l k G)⟩
theorem jp.open{h:Hp}{v:Value}{l:List (Int×Int)}(ad:jp h v l):∃a E,v=ag a l.length E∧l.length≤140737488355328∧∀w,ao h w→0<l.length→∃b A,a=some ⟨b,A,none⟩∧b<w.heap.size∧∀k (G:k<l.length),w.cell? ⟨b,A+k*2,none⟩=some (af ae l[k].1)∧w.cell? ⟨b,A+k*2+1,none⟩=some (af ae l[k].2):=by obtain⟨s,aj⟩:=ad;obtain⟨a,E,rfl,ac⟩:=s.shape;refine⟨a,E,rfl,ac,fun w ab O=> ?_⟩;obtain⟨b,A,rfl,Y,M⟩:=s.cells ab O;refine⟨b,A,rfl,Y,fun k G=>⟨M _ _ (mE l k G).1,?_⟩⟩;rw[bP];exact M _ _ (mE l k G).2
theorem gP.open{h:Hp}{v:Value}{ls:List (List Int)}(aB:gP h v ls):∃a M,v=ag a ls.length M∧ls.length≤140737488355328∧∀w,ao h w→0<ls.length→∃b G,a=some ⟨b,G,none⟩∧b<w.heap.size∧∀k (O:k<ls.length),∃A E,w.cell? ⟨b,G+k,none⟩=some (ag A ls[k].length E)∧Ints h (ag A ls[k].length E) ls[k]:=by obtain⟨cs,s,ax⟩:=aB;obtain⟨a,M,rfl,am⟩:=s.shape;refine⟨a,M,rfl,am,fun w aj Y=> ?_⟩;obtain⟨b,G,rfl,ac,ad⟩:=s.cells aj Y;refine⟨b,G,rfl,ac,fun k O=> ?_⟩;obtain⟨aG,⟨A,E,rfl,ak⟩,ab⟩:=ax.at 1 io.len k O;refine⟨A,E,ad _ _ ?_,ak⟩;have:=ab 0 (by omega);simpa using this
inductive Tree where
 |node (kind:Int) (text:ByteArray) (leads:List ByteArray) (kids:List Tree)
def Tree.kind:Tree→Int| .node k _ _ _=>k
def Tree.text:Tree→ByteArray| .node _ s _ _=>s
def Tree.leads:Tree→List ByteArray| .node _ _ l _=>l
def Tree.kids:Tree→List Tree| .node _ _ _ ks=>ks
mutual
def Tree.size:Tree→Nat
 | .node _ _ _ ks=>ax ks+1
def ax:List Tree→Nat
 |[]=>0
 |t::ts=>t.size+ax ts
end
theorem Tree.size_eq(t:Tree):t.size=ax t.kids+1:=by cases t;simp[Tree.size,Tree.kids]
theorem gR(t:Tree)(ts:List Tree):ax (t::ts)=t.size+ax ts:=by rw[ax]
theorem dB{t:Tree}{ts:List Tree}(h:t∈ts):t.size≤ax ts:=by
 induction ts with
 |nil=>simp at h
 |cons a ts A=>
  rw[gR];rcases b8.1 h with rfl|h;·omega
  ·have:=A h;omega
mutual
def bg(h:Hp):Tree→List Value→Prop
 | .node k s ls ks,cs=>∃al cl ak ck xs,cs=[af ae k,ah s,ag al ls.length cl,ag ak ks.length ck]∧aG k∧Sl h (ag al ls.length cl) ls.length 1 (ls.map ah)∧Sl h (ag ak ks.length ck) ks.length 4 xs∧eH h ks xs
def eH(h:Hp):List Tree→List Value→Prop
 |[],cs=>cs=[]
 |t::ts,cs=>∃a r,cs=a++r∧bg h t a∧eH h ts r
end
theorem eH.iff{h:Hp}:∀{ts:List Tree} {cs:List Value},eH h ts cs↔aJ (bg h) ts cs
 |[],cs=>by rw[eH,aJ]
 |t::ts,cs=>by
  rw[eH,aJ];constructor;·rintro⟨a,r,e,h1,h2⟩;exact⟨a,r,e,h1,eH.iff.1 h2⟩
  ·rintro⟨a,r,e,h1,h2⟩;exact⟨a,r,e,h1,eH.iff.2 h2⟩
theorem bg.iff{h:Hp}{t:Tree}{cs:List Value}:bg h t cs↔∃E G A ck xs,cs=[af ae t.kind,ah t.text,ag E t.leads.length G,ag A t.kids.length ck]∧aG t.kind∧Sl h (ag E t.leads.length G) t.leads.length 1 (t.leads.map ah)∧Sl h (ag A t.kids.length ck) t.kids.length 4 xs∧aJ (bg h) t.kids xs:=by
 cases t;rw[bg];constructor;·rintro⟨E,G,A,ck,xs,e,M,h1,h2,O⟩;exact⟨E,G,A,ck,xs,e,M,h1,h2,eH.iff.1 O⟩
 ·rintro⟨E,G,A,ck,xs,e,M,h1,h2,O⟩;exact⟨E,G,A,ck,xs,e,M,h1,h2,eH.iff.2 O⟩
theorem bg.len{h:Hp}(t:Tree)(cs:List Value)(e:bg h t cs):cs.length=4:=by obtain⟨E,G,A,ck,xs,rfl,_⟩:=bg.iff.1 e;rfl
mutual
theorem bg.mono{h h':Hp}(A:h.le h'):∀{t:Tree} {cs:List Value},bg h t cs→bg h' t cs
 | .node k s ls ab,cs,e=>by rw[bg]at e⊢;obtain⟨G,M,E,ck,xs,e,O,h1,h2,Y⟩:=e;exact⟨G,M,E,ck,xs,e,O,h1.mono A,h2.mono A,eH.mono A Y⟩
theorem eH.mono{h h':Hp}(A:h.le h'):∀{ts:List Tree} {cs:List Value},eH h ts cs→eH h' ts cs
 |[],cs,e=>by rw[eH]at e⊢;exact e
 |t::ts,cs,e=>by rw[eH]at e⊢;obtain⟨a,r,e,h1,h2⟩:=e;exact⟨a,r,e,bg.mono A h1,eH.mono A h2⟩
end
def aP(h:Hp)(v:Value)(t:Tree):Prop:=∃cs,v=aq cs.toArray∧bg h t cs
theorem aP.mono{h h':Hp}(A:h.le h'){v:Value}{t:Tree}(s:aP h v t):aP h' v t:=by obtain⟨cs,e,i⟩:=s;exact⟨cs,e,i.mono A⟩
theorem aP.open{h:Hp}{v:Value}{t:Tree}(s:aP h v t):∃E G A ck xs,v=aq #[af ae t.kind,ah t.text,ag E t.leads.length G,ag A t.kids.length ck]∧aG t.kind∧t.leads.length≤140737488355328∧t.kids.length≤140737488355328∧Sl h (ag E t.leads.length G) t.leads.length 1 (t.leads.map ah)∧Sl h (ag A t.kids.length ck) t.kids.length 4 xs∧aJ (bg h) t.kids xs:=by obtain⟨cs,rfl,e⟩:=s;obtain⟨E,G,A,ck,xs,rfl,M,h1,h2,O⟩:=bg.iff.1 e;exact⟨E,G,A,ck,xs,rfl,M,h1.len.1,h2.len.1,h1,h2,O⟩
def hQ(h:Hp)(v:Value)(ts:List Tree):Prop:=∃cs,Sl h v ts.length 4 cs∧aJ (bg h) ts cs
theorem hQ.mono{h h':Hp}(A:h.le h'){v:Value}{ts:List Tree}(s:hQ h v ts):hQ h' v ts:=by obtain⟨cs,h1,h2⟩:=s;exact⟨cs,h1.mono A,h2.mono fun _ _ r=>r.mono A⟩
theorem j9{h:Hp}{a:Option Addr}{m Y:Nat}{ts:List Tree}{cs:List Value}(s:Sl h (ag a m Y) ts.length 4 cs)(e:aJ (bg h) ts cs){w:World}(ac:ao h w)(i:Nat)(ad:i<ts.length):
  ∃b A G M E ck,a=some ⟨b,A,none⟩∧b<w.heap.size∧w.cell? ⟨b,A+i*4,none⟩=some (af ae ts[i].kind)∧w.cell? ⟨b,A+i*4+1,none⟩=some (ah ts[i].text)∧
   w.cell? ⟨b,A+i*4+2,none⟩=some (ag G ts[i].leads.length M)∧w.cell? ⟨b,A+i*4+3,none⟩=some (ag E ts[i].kids.length ck)∧
   aP h (aq #[af ae ts[i].kind,ah ts[i].text,ag G ts[i].leads.length M,ag E ts[i].kids.length ck]) ts[i]:=by
 obtain⟨b,A,rfl,ab,O⟩:=s.cells ac (by omega);obtain⟨c4,h1,h2⟩:=e.at 4 bg.len i ad;obtain⟨G,M,E,ck,xs,rfl,aj⟩:=bg.iff.1 h1;refine⟨b,A,G,M,E,ck,rfl,ab,?_,?_,?_,?_,⟨_,rfl,h1⟩⟩;·exact O _ _ (h2 0 (by omega))
 ·rw[bP];exact O _ _ (h2 1 (by omega))
 ·rw[bP];exact O _ _ (h2 2 (by omega))
 ·rw[bP];exact O _ _ (h2 3 (by omega))
structure aB where
 kind:Int
 text:ByteArray
 parent:Int
 kids:List Int
 size:Int
instance:Inhabited aB:=⟨⟨0,⟨#[]⟩,0,[],0⟩⟩
def kM(h:Hp)(n:aB)(cs:List Value):Prop:=∃a c,cs=[af ae n.kind,ah n.text,af ae n.parent,ag a n.kids.length c,af ae n.size]∧aG n.kind∧aG n.parent∧aG n.size∧Ints h (ag a n.kids.length c) n.kids
theorem kM.len{h:Hp}(n:aB)(cs:List Value)(e:kM h n cs):cs.length=5:=by obtain⟨a,c,rfl,_⟩:=e;rfl
theorem kM.mono{h h':Hp}(G:h.le h'){n:aB}{cs:List Value}(e:kM h n cs):kM h' n cs:=by obtain⟨a,c,rfl,h1,h2,A,E⟩:=e;exact⟨a,c,rfl,h1,h2,A,E.mono G⟩
def gy(h:Hp)(v:Value)(l:List aB):Prop:=∃cs,Sl h v l.length 5 cs∧aJ (kM h) l cs
theorem gy.mono{h h':Hp}(A:h.le h'){v:Value}{l:List aB}(s:gy h v l):gy h' v l:=by obtain⟨cs,h1,h2⟩:=s;exact⟨cs,h1.mono A,h2.mono fun _ _ r=>r.mono A⟩
theorem gy.open{h:Hp}{v:Value}{l:List aB}(aj:gy h v l):∃a M,v=ag a l.length M∧l.length≤140737488355328∧
  ∀w,ao h w→∀i (O:i<l.length),∃b A G ck,a=some ⟨b,A,none⟩∧b<w.heap.size∧w.cell? ⟨b,A+i*5,none⟩=some (af ae l[i].kind)∧w.cell? ⟨b,A+i*5+1,none⟩=some (ah l[i].text)∧
   w.cell? ⟨b,A+i*5+2,none⟩=some (af ae l[i].parent)∧w.cell? ⟨b,A+i*5+3,none⟩=some (ag G l[i].kids.length ck)∧w.cell? ⟨b,A+i*5+4,none⟩=some (af ae l[i].size)∧
   Ints h (ag G l[i].kids.length ck) l[i].kids∧aG l[i].kind∧aG l[i].parent∧aG l[i].size:=by
 obtain⟨cs,s,e⟩:=aj;obtain⟨a,M,rfl,ad⟩:=s.shape;refine⟨a,M,rfl,ad,fun w ac i O=> ?_⟩;obtain⟨b,A,rfl,ab,E⟩:=s.cells ac (by omega);obtain⟨c5,h1,h2⟩:=e.at 5 kM.len i O;obtain⟨G,ck,rfl,ak,am,ax,Y⟩:=h1;refine⟨b,A,G,ck,rfl,ab,?_,?_,?_,?_,?_,Y,ak,am,ax⟩;·exact E _ _ (h2 0 (by omega))
 ·rw[bP];exact E _ _ (h2 1 (by omega))
 ·rw[bP];exact E _ _ (h2 2 (by omega))
 ·rw[bP];exact E _ _ (h2 3 (by omega))
 ·rw[bP];exact E _ _ (h2 4 (by omega))
structure jr where
 aR:List (Int×Int)
 cost:Int
 bM:List (List Int)
instance:Inhabited jr:=⟨⟨[],0,[]⟩⟩
def lL(h:Hp)(x:jr)(cs:List Value):Prop:=∃ap cp ar cr,cs=[ag ap x.aR.length cp,af ae x.cost,ag ar x.bM.length cr]∧aG x.cost∧jp h (ag ap x.aR.length cp) x.aR∧gP h (ag ar x.bM.length cr) x.bM
theorem lL.mono{h h':Hp}(A:h.le h'){n:jr}{cs:List Value}(e:lL h n cs):lL h' n cs:=by obtain⟨a,c,a',c',rfl,h1,h2,E⟩:=e;exact⟨a,c,a',c',rfl,h1,h2.mono A,E.mono A⟩
theorem lL.len{h:Hp}(n:jr)(cs:List Value)(e:lL h n cs):cs.length=3:=by obtain⟨a,c,a',c',rfl,_⟩:=e;rfl
structure dY where
 a:Int
 b:Int
 cost:Int
 kids:jr
instance:Inhabited dY:=⟨⟨0,0,0,default⟩⟩
def kN(h:Hp)(x:dY)(cs:List Value):Prop:=∃r,cs=[af ae x.a,af ae x.b,af ae x.cost]++r∧aG x.a∧aG x.b∧aG x.cost∧lL h x.kids r
theorem kN.mono{h h':Hp}(G:h.le h'){n:dY}{cs:List Value}(e:kN h n cs):kN h' n cs:=by obtain⟨r,rfl,h1,h2,A,E⟩:=e;exact⟨r,rfl,h1,h2,A,E.mono G⟩
theorem kN.len{h:Hp}(n:dY)(cs:List Value)(e:kN h n cs):cs.length=6:=by obtain⟨r,rfl,h1,h2,E,A⟩:=e;simp[lL.len _ _ A]
def mF(h:Hp)(v:Value)(l:List dY):Prop:=∃cs,Sl h v l.length 6 cs∧aJ (kN h) l cs
theorem mF.mono{h h':Hp}(A:h.le h'){v:Value}{l:List dY}(s:mF h v l):mF h' v l:=by obtain⟨cs,h1,h2⟩:=s;exact⟨cs,h1.mono A,h2.mono fun _ _ r=>r.mono A⟩
structure kd where
 aR:List (Int×Int)
 cost:Int
 gT:Bool
 a7:Int
 proof:List dY
def tg(h:Hp)(v:Value)(x:kd):Prop:=∃ap cp ar cr,v=aq #[ag ap x.aR.length cp,af ae x.cost,ay x.gT,af ae x.a7,ag ar x.proof.length cr]∧aG x.cost∧aG x.a7∧jp h (ag ap x.aR.length cp) x.aR∧mF h (ag ar x.proof.length cr) x.proof
instance:Inhabited kd:=⟨⟨[],0,false,0,[]⟩⟩
def C0(h:Hp)(v:Value)(x:jr):Prop:=∃cs,v=aq cs.toArray∧lL h x cs
theorem fP:eZ ai 34 3 1 8 [af ae 0]:=
 .mk' (zv:=af ae 0) Tryz.underlying34 (by kernel_rfl) rfl rfl (by decide) (by decide)
theorem q3:eZ ai 73 79 2 16 [af ae 0,af ae 0]:=
 .mk' (zv:=aq #[af ae 0,af ae 0]) Tryz.underlying73 (by kernel_rfl) rfl rfl (by decide) (by decide)
theorem sZ:eZ ai 123 34 1 24 [ag none 0 0]:=
 .mk' (zv:=ag none 0 0) Tryz.underlying123 (by kernel_rfl) rfl rfl (by decide) (by decide)
theorem tp:eZ ai 176 179 5 64 [af ae 0,ah ⟨#[]⟩,af ae 0,ag none 0 0,af ae 0]:=
 .mk' (zv:=aq #[af ae 0,ah ⟨#[]⟩,af ae 0,ag none 0 0,af ae 0]) Tryz.underlying176 (by kernel_rfl) rfl rfl (by decide) (by decide)
theorem iJ:eZ ai 22 26 4 72 [af ae 0,ah ⟨#[]⟩,ag none 0 0,ag none 0 0]:=
 .mk' (zv:=aq #[af ae 0,ah ⟨#[]⟩,ag none 0 0,ag none 0 0]) Tryz.underlying22 (by kernel_rfl) rfl rfl (by decide) (by decide)
theorem Dp:eZ ai 74 140 6 80 [af ae 0,af ae 0,af ae 0,ag none 0 0,af ae 0,ag none 0 0]:=
 .mk' (zv:=aq #[af ae 0,af ae 0,af ae 0,ag none 0 0,af ae 0,ag none 0 0]) Tryz.underlying74 (by kernel_rfl) rfl rfl (by decide) (by decide)
def Hp.add(h:Hp)(g:Nat)(c:Array Value):Hp:=fun b=>if b=g then some c else h b
theorem Hp.eG{h:Hp}{g:Nat}(c:Array Value)(E:h g=none):h.le (h.add g c):=fun b x A=>by
 unfold Hp.add;split;·rename_i e;subst e;rw[E]at A;cases A
 ·exact A
theorem ao.add{h:Hp}{w:World}{g:Nat}{c:Array Value}(G:ao h w)(E:bi w g=some c):ao (h.add g c) w:=fun b x A=>by
 unfold Hp.add at A;split at A;·rename_i e;subst e;simp only[aC]at A;subst A;exact E
 ·exact G b x A
theorem Ow.giveUp{w:World}{h:Hp}{B:Nat}{e:TypeId}{k:Nat}{v:Value}{n:Nat}{xs:List Value}(o:Ow w h B e k v n xs)(E:ao h w)(O:n≤140737488355328):∃h',ao h' w∧h.le h'∧(∀b,(∀g,v.ownBlock=some g→b≠g)→h' b=h b)∧Sl h' v n k xs:=by
 have Y:=o.free;rcases o.row with⟨h1,⟨rfl,rfl⟩|⟨A,ad,G,rfl,M,ab,am,aj,ak,ac⟩⟩;·exact⟨h,E,Hp.le_refl _,fun _ _=>rfl,⟨_,_,rfl,O,h1,.inl rfl⟩⟩
 ·refine⟨h.add A G,E.add (by simp[bi,ab]),Hp.eG _ (Y A rfl),fun b M=> ?_,⟨_,_,rfl,O,h1,.inr ⟨A,0,G,rfl,?_,?_⟩⟩⟩;·unfold Hp.add;rw[if_neg (M A rfl)]
  ·unfold Hp.add;rw[if_pos rfl]
  ·intro i E;rw[←ac,vD,if_pos E,cO];simp
def dC:List Tree→Nat→List Int
 |[],_=>[]
 |t::ts,n=>(n:Int)::dC ts (n+t.size)
mutual
def ej:Tree→Int→Nat→List aB
 | .node k s _ ks,parent,at_=>⟨k,s,parent,dC ks (at_+1),ax ks+1⟩::eJ ks at_ (at_+1)
def eJ:List Tree→Nat→Nat→List aB
 |[],_,_=>[]
 |t::ts,p,n=>ej t p n++eJ ts p (n+t.size)
end
def aO(t:Tree):List aB:=ej t (-1) 0
theorem w7(t:Tree)(p:Int)(n:Nat):ej t p n=⟨t.kind,t.text,p,dC t.kids (n+1),t.size⟩::eJ t.kids n (n+1):=by cases t;simp[ej,Tree.kind,Tree.text,Tree.kids,Tree.size]
theorem w8(t:Tree)(ts:List Tree)(p n:Nat):eJ (t::ts) p n=ej t p n++eJ ts p (n+t.size):=by rw[eJ]
mutual
theorem lN:∀(t:Tree) (p:Int) (n:Nat),(ej t p n).length=t.size
 | .node k s l A,p,n=>by rw[ej,Tree.size,bF,tr]
theorem tr:∀(ts:List Tree) (p n:Nat),(eJ ts p n).length=ax ts
 |[],_,_=>by rw[eJ,ax];rfl
 |t::ts,p,n=>by rw[eJ,ax,cI,lN,tr]
end
theorem nJ(t:Tree):(aO t).length=t.size:=lN t _ _
theorem Dq(ts:List Tree)(n:Nat):(dC ts n).length=ts.length:=by
 induction ts generalizing n with
 |nil=>rfl
 |cons t ts A=>simp[dC,A]
theorem eY(ts:List Tree)(k:Nat)(A:k<ts.length):ax (ts.take (k+1))=ax (ts.take k)+ts[k].size:=by
 induction ts generalizing k with
 |nil=>simp at A
 |cons t ts E=>
  cases k with
  |zero=>simp[ax]
  |succ k=>simp only[fl,ax,dV];rw[E k (by simpa using A)];omega
theorem jK(ts:List Tree)(k:Nat):ax (ts.take k)≤ax ts:=by
 induction ts generalizing k with
 |nil=>simp
 |cons t ts A=>
  cases k with
  |zero=>simp[ax]
  |succ k=>simp only[fl,ax];have:=A k;omega
theorem w9(ts:List Tree):ts.length≤ax ts:=by
 induction ts with
 |nil=>simp
 |cons t ts A=>rw[gR,bF];have:=t.size_eq;omega
theorem Dr(ts:List Tree)(n j:Nat)(hj:j<ts.length):dC (ts.take (j+1)) n=dC (ts.take j) n++[((n+ax (ts.take j):Nat):Int)]:=by
 induction ts generalizing n j with
 |nil=>simp at hj
 |cons t ts A=>
  cases j with
  |zero=>simp[dC,ax]
  |succ j=>simp only[fl,dC,ax,List.cons_append];rw[A (n+t.size) j (by simpa using hj)];simp only[bP]
theorem Ds(ts:List Tree)(p n j:Nat)(hj:j<ts.length):eJ (ts.take (j+1)) p n=eJ (ts.take j) p n++ej ts[j] p (n+ax (ts.take j)):=by
 induction ts generalizing n j with
 |nil=>simp at hj
 |cons t ts A=>
  cases j with
  |zero=>simp[eJ,ax]
  |succ j=>simp only[fl,eJ,ax,dV];rw[A (n+t.size) j (by simpa using hj)];simp only[bP,fI]
theorem xa(ts:List Tree)(n:Nat)(x:Int)(A:x∈dC ts n):(n:Int)≤x∧x<n+ax ts:=by
 induction ts generalizing n with
 |nil=>simp[dC]at A
 |cons t ts E=>
  simp only[dC,b8]at A;have G:0<t.size:=by have:=t.size_eq;omega
  rw[gR];rcases A with rfl|A;·omega
  ·have:=E (n+t.size) A;omega
def bt(s:ByteArray)(i:Nat):Int:=((s.data.toList.getD i 0).toNat:Int)
def hR(c:Int):Bool:=c==9||c==10||c==13||c==32
def mG(c:Int):Bool:=hR c||(decide (32<c)&&decide (c<127))
def fU(c:Int):Bool:=decide (97≤c)&&decide (c≤122)
def fc(c:Int):Bool:=decide (65≤c)&&decide (c≤90)
def ey(c:Int):Bool:=decide (48≤c)&&decide (c≤57)
def eI(c:Int):Bool:=fU c||fc c
def cn(c:Int):Bool:=eI c||ey c||decide (c=95)
def di(f:Int→Bool)(s:ByteArray)(i:Nat):Nat:=((s.data.toList.drop i).takeWhile fun c=>f (c.toNat:Int)).length
theorem nH{f:Int→Bool}{s:ByteArray}{i n:Nat}(O:i+n≤s.size)(h1:∀k,k<n→f (bt s (i+k))=true)(h2:i+n<s.size→f (bt s (i+n))=false):di f s i=n:=by
 unfold di;obtain⟨⟨l⟩⟩:=s;have Y:(qC ⟨l⟩).size=l.length:=rfl;rw[Y]at O h2;unfold bt at h1 h2;dsimp only at h1 h2⊢;induction n generalizing i with
 |zero=>
  cases hd:l.drop i with
  |nil=>rfl
  |cons c r=>
   have A:i<l.length:=by
    rcases b7 i l.length with h|h;·exact h
    ·rw[List.drop_eq_nil_of_le h]at hd;cases hd
   have E:l.getD i 0=c:=by have:=jh A;rw[hd]at this;simp only[ii]at this;rw[bb,aE A,this.1];rfl
   have:=h2 (by omega);rw[dz,E]at this;rw[sC,this];rfl
 |succ n ab=>
  have A:i<l.length:=by omega
  rw[jh A,sC];have E:l.getD i 0=l[i]:=by rw[bb,aE A];rfl
  have G:=h1 0 (by omega);rw[dz,E]at G;rw[G]
  have:=ab (i:=i+1) (by omega) (fun k M=>by
   have e:i+1+k=i+(k+1):=by omega
   rw[e];exact h1 (k+1) (by omega)) (fun M=>by
   have e:i+1+n=i+(n+1):=by omega
   rw[e];exact h2 (by omega))
  simp only[if_true,bF,this]
theorem ei{s:ByteArray}{i:Nat}(h:i<s.size):((s[i]'h).toNat:Int)=bt s i:=by obtain⟨⟨l⟩⟩:=s;have A:i<l.length:=h;unfold bt;dsimp only;rw[bb,aE A];rfl
theorem wZ(w:World)(c:Int):Calls ai 87 #[af .u8 c] w fun e w'=>e= .returned (ay (hR c))∧w=w':=by
 go_enter Tryz.func87,Tryz.ntmps87;go_wp2_with fail;all_goals go_ret
 all_goals exact⟨by simp[hR, *],rfl⟩
theorem oQ(w:World)(c:Int):Calls ai 175 #[af .u8 c] w fun e w'=>e= .returned (ay (fU c))∧w=w':=by
 go_enter Tryz.func175,Tryz.ntmps175;go_wp2_with fail;all_goals go_ret
 all_goals exact⟨by simp_all[fU]<;>omega,rfl⟩
theorem w4(w:World)(c:Int):Calls ai 176 #[af .u8 c] w fun e w'=>e= .returned (ay (fc c))∧w=w':=by
 go_enter Tryz.func176,Tryz.ntmps176;go_wp2_with fail;all_goals go_ret
 all_goals exact⟨by simp_all[fc]<;>omega,rfl⟩
theorem q2(w:World)(c:Int):Calls ai 127 #[af .u8 c] w fun e w'=>e= .returned (ay (ey c))∧w=w':=by
 go_enter Tryz.func127,Tryz.ntmps127;go_wp2_with fail;all_goals go_ret
 all_goals exact⟨by simp_all[ey]<;>omega,rfl⟩
theorem tj(w:World)(c:Int):Calls ai 125 #[af .u8 c] w fun e w'=>e= .returned (ay (eI c))∧w=w':=by
 generalize A:fU c=bl;go_enter Tryz.func125,Tryz.ntmps125;go_wp2_with fail;refine(oQ _ c).mono ?_;rintro e w1 ⟨rfl,rfl⟩;rw[A];cases bl
 ·go_wp2_with fail;refine(w4 _ c).mono ?_;rintro e w1 ⟨rfl,rfl⟩;go_wp2_with fail;all_goals go_ret
  all_goals exact⟨by simp_all[eI],rfl⟩
 ·go_wp2_with fail;all_goals go_ret
  all_goals exact⟨by simp_all[eI],rfl⟩
theorem w5(w:World)(c:Int):Calls ai 88 #[af .u8 c] w fun e w'=>e= .returned (ay (mG c))∧w=w':=by
 generalize A:hR c=bl;go_enter Tryz.func88,Tryz.ntmps88;go_wp2_with fail;refine(wZ _ c).mono ?_;rintro e w1 ⟨rfl,rfl⟩;rw[A];cases bl<;>go_wp2_with fail;all_goals go_ret
 all_goals exact⟨by simp_all[mG]<;>omega,rfl⟩
theorem xk:eZ ai 88 95 3 40 [af ae 0,ah ⟨#[]⟩,ah ⟨#[]⟩]:=
 .mk' (zv:=aq #[af ae 0,ah ⟨#[]⟩,ah ⟨#[]⟩]) Tryz.underlying88 (by kernel_rfl) rfl rfl (by decide) (by decide)
structure cU where
 kind:Int
 lead:ByteArray
 text:ByteArray
def ir(t:cU):List Value:=[af ae t.kind,ah t.lead,ah t.text]
end Go.Proofs.YtdplggpbgommnaaGreatDoor
