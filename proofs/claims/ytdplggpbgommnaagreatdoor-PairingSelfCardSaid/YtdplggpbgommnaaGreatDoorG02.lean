/- Blocks whose cells are known. -/
import Derived.Test.YtdplggpbgommnaaGreatDoorG01
open Array renaming getElem?_eq_none→iF
open Bool renaming false_eq_true→mj
open ByteArray renaming mk→qC
open Go renaming MapEntry→np,getObj→kE,heap_alloc_new→gL,run_underlying→gl
open Go.Addr.mk renaming injEq→cx
open Go.Instr renaming checkKey→oy,findAsking→qw,findKey→qx,findNow→ml,keyThatStays→BD,lookup→mn,mapUpdate→lA,sameBits→lE,sameNow→qy
open Go.IntKind renaming i64→ae
open Go.Op renaming equalIn→nn,equal→pf
open Go.Proofs.Tryz renaming prog→ai,underlying79→Kd
open Go.Result renaming andThen_ok→mh
open Go.RowKit.Below renaming heap_setCell→cH,refl→aD
open Go.Sem renaming run_bind→lD,run→kF
open Go.Value renaming agg→aq,bool→ay,int→af,ownBlock→bW,string→ah
open Go.World renaming cell?_of_block→dc,frozen?_of_block→kG,setCell→ef
open List renaming ext_getElem?→lF,find?_cons_of_neg→sB,findIdx?_cons→ns,findIdx?_eq_some_iff_getElem→oB,getD_eq_getElem?_getD→bb,getElem?_eq_getElem→aE,getElem?_mapIdx→px,getElem?_map→jB,map_cons→cR,map_set→hL,range→aw,replicate→aA
open List.cons renaming injEq→ii
open Nat renaming add_assoc→bP,add_comm→sK,lt_of_lt_of_le→bK,lt_or_ge→b7
open Option renaming bind_none→BV,bind_some→j2,getD_some→fs,map_map→vJ,map_some→fa
open Option.some renaming injEq→aC,inj→aU
open Prod.mk renaming injEq→jg
set_option maxHeartbeats 400000
namespace Go.Proofs.YtdplggpbgommnaaGreatDoor
open Go.RowKit
structure Has(w:World)(b:Nat)(c:Array Value):Prop where
 lt:b<w.heap.size
 cl:∀o,w.cell? ⟨b,o,none⟩=c[o]?
 fz:∀o,w.frozen? ⟨b,o,none⟩=false
theorem Has.drew{w:World}{b:Nat}{c:Array Value}(h:Has w b c):Has w.drew b c:=⟨h.lt,h.cl,h.fz⟩
theorem Has.alloc{w:World}{b:Nat}{c:Array Value}(h:Has w b c)(o:Obj):Has (w.alloc o) b c:=by
 refine⟨by have:=h.lt;simp;omega,fun q=> ?_,fun q=> ?_⟩;·rw[World.cell?_alloc_past _ _ _ h.lt];exact h.cl q
 ·rw[World.frozen?_alloc_past _ _ _ h.lt];exact h.fz q
theorem Has.below{W w:World}{b:Nat}{c:Array Value}(h:Has W b c)(A:Below W.heap.size W w):Has w b c:=
 ⟨bK h.lt A.size,fun q=>(A.cell (p:=⟨b,q,none⟩) h.lt).trans (h.cl q),fun q=>(A.frozen (p:=⟨b,q,none⟩) h.lt).trans (h.fz q)⟩
theorem Has.new(w:World)(c:Array Value)(t:TypeId):Has (w.alloc (.cells c t)) w.heap.size c:=
 ⟨by simp,fun q=>by rw[World.cell?_alloc_at _ _ _ _ rfl],fun q=>World.frozen?_alloc_at _ _ _ _ rfl⟩
theorem Has.kY(w:World)(o:Obj)(c:Array Value)(t:TypeId):Has ((w.alloc o).alloc (.cells c t)) (w.heap.size+1) c:=by have:=Has.new (w.alloc o) c t;simpa using this
theorem Has.ne{w:World}{b g:Nat}{c:Array Value}(h:Has w b c)(A:g≠b)(i:Nat)(v:Value):Has (w.setCell ⟨g,i,none⟩ v) b c:=by
 refine⟨by simpa[ef]using h.lt,fun q=> ?_,fun q=> ?_⟩;·rw[dc (a:=⟨b,q,none⟩) (cH _ _ _ _ (by exact fun e=>A e.symm))];exact h.cl q
 ·rw[kG (a:=⟨b,q,none⟩) (cH _ _ _ _ (by exact fun e=>A e.symm))];exact h.fz q
theorem Has.fg{w:World}{b:Nat}{c:Array Value}(x:Has w b c)(i:Nat)(A:i<c.size)(v:Value):Has (w.setCell ⟨b,i,none⟩ v) b (c.setIfInBounds i v):=by
 refine⟨by simpa[ef]using x.lt,fun o=> ?_,fun o=>by have:=x.fz o;simp[this]⟩;by_cases e:o=i;·subst e;rw[World.cell?_setCell_same _ _ _ ((x.cl o).trans (Array.getElem?_eq_getElem A))];simp[A]
 ·rw[World.cell?_setCell_other _ _ _ _ (by simp),x.cl o];rw[Array.getElem?_setIfInBounds_ne (fun h=>e h.symm)]
theorem wS(w:World)(a b c d:Int):(nn 10000 79 (aq #[af ae a,af ae b]) (aq #[af ae c,af ae d])).run ai w= .ok ((a==c)&&(b==d)) w:=by
 have E:∀w,(sizeOf 3).run ai w= .ok 1 w:=fun _=>by kernel_rfl
 have G:∀(x y:Value) w,(part 3 #[x,y] 0).run ai w= .ok x w:=fun _ _ _=>by kernel_rfl
 have M:∀(x y:Value) w,(part 3 #[x,y] 1).run ai w= .ok y w:=fun _ _ _=>by kernel_rfl
 have A:∀(x y:Int) w,(nn 9999 3 (af ae x) (af ae y)).run ai w= .ok (x==y) w:=fun x y w=>run_equalIn_int w 9998 3 ae ae x y Tryz.underlying3;rw[show(10000:Nat)=9999+1 from rfl,nn];simp only[lD,gl Kd,mh,E];rw[Std.Legacy.Range.forIn_eq_forIn_range'];simp only[Std.Legacy.Range.size,Nat.sub_zero,Nat.add_sub_cancel,Nat.div_one,List.range',List.forIn_cons,List.forIn_nil,lD,G,Nat.zero_add,Nat.mul_one,mh,A];cases h1:a==c<;>cases h2:b==d<;>simp[lD,M,A,h2,Sem.run_pure,Result.andThen]
attribute [go_sem] wS
def fx(p:Int×Int):Value:=aq #[af ae p.1,af ae p.2]
def fy(w:World)(r:Nat)(l:List ((Int×Int)×Value)):Prop:=∃es clock,w.heap[r]? =some (.map es clock)∧es.toList.map (fun e=>(e.key,e.val))=l.map fun q=>(fx q.1,q.2)
theorem fy.U{w w':World}{r:Nat}{l:List ((Int×Int)×Value)}(m:fy w r l)(h:w'.heap[r]? =w.heap[r]?):fy w' r l:=by obtain⟨A,c,h1,h2⟩:=m;exact⟨A,c,by rw[h];exact h1,h2⟩
theorem fy.lt{w:World}{r:Nat}{l:List ((Int×Int)×Value)}(m:fy w r l):r<w.heap.size:=by
 obtain⟨E,c,h1,h2⟩:=m;rcases b7 r w.heap.size with A|A;·exact A
 ·rw[iF A]at h1;cases h1
def fT(l:List ((Int×Int)×Value))(p:Int×Int):Option Value:=(l.find? fun q=>decide (q.1=p)).map (·.2)
def iq:List ((Int×Int)×Value)→Int×Int→Value→List ((Int×Int)×Value)
 |[],p,v=>[(p,v)]
 |q::l,p,v=>if q.1=p then(p,v)::l else q::iq l p v
theorem qX(l:List ((Int×Int)×Value))(p q:Int×Int)(v:Value):fT (iq l p v) q=if q=p then some v else fT l q:=by
 induction l with
 |nil=>
  by_cases h:q=p;·subst h;simp[fT,iq]
  ·have:p≠q:=fun e=>h e.symm;simp[fT,iq,h,this]
 |cons a l E=>
  unfold iq;by_cases h1:a.1=p
  ·rw[if_pos h1];by_cases h:q=p;·subst h;simp[fT]
   ·have h2:p≠q:=fun e=>h e.symm;have A:a.1≠q:=fun e=>h (by rw[←e,h1]);simp[fT,h,h2,A]
  ·rw[if_neg h1];by_cases h2:a.1=q;·have:q≠p:=fun e=>h1 (by rw[h2,e]);simp[fT,h2,this]
   ·unfold fT at*;rw[sB (by simpa using h2),E];by_cases h:q=p;·simp[h]
    ·rw[if_neg h,if_neg h,sB (by simpa using h2)]
theorem C1(w:World)(p q:Int×Int):(pf 79 (fx p) (fx q)).run ai w= .ok (decide (q=p)) w:=by
 have h:(pf 79 (fx p) (fx q)).run ai w= .ok ((p.1==q.1)&&(p.2==q.2)) w:=wS w p.1 p.2 q.1 q.2;rw[h];have e:((p.1==q.1)&&(p.2==q.2))=decide (q=p):=by rw[Bool.eq_iff_iff];simp only[Bool.and_eq_true,beq_iff_eq,decide_eq_true_eq,Prod.ext_iff];constructor<;>(rintro⟨a,b⟩;exact⟨a.symm,b.symm⟩)
 rw[e]
theorem wT(w:World)(p:Int×Int):∀(A:List np) (l:List ((Int×Int)×Value)) (i:Nat),A.map (fun e=>(e.key,e.val))=l.map (fun q=>(fx q.1,q.2))→(qw 79 (fx p) A i).run ai w= .ok (match l.findIdx? (fun q=>decide (q.1=p))with|none=>none|some k=>some (i+k,(l.getD k default).2)) w
 |[],l,i,h=>by
  cases l with
  |nil=>simp[qw]
  |cons a l=>simp at h
 |e::A,l,i,h=>by
  cases l with
  |nil=>simp at h
  |cons a l=>
   simp only[cR,ii,jg]at h;obtain⟨⟨h1,h2⟩,G⟩:=h;rw[qw];simp only[lD,h1,C1,mh];by_cases E:a.1=p;·simp[E,h2,ns]
   ·rw[if_neg (by simpa using E),wT w p A l (i+1) G];rw[ns];simp only[E,decide_false,mj,if_false];cases l.findIdx? (fun q=>decide (q.1=p))with
    |none=>rfl
    |some k=>simp;omega
theorem run_checkKey(w:World)(b:Bool)(p:Int×Int):(oy b 10000 79 (fx p)).run ai w= .ok () w:=by cases b<;>kernel_rfl
theorem run_findKey(w:World)(p:Int×Int)(A:List np)(l:List ((Int×Int)×Value))(h:A.map (fun e=>(e.key,e.val))=l.map (fun q=>(fx q.1,q.2))):(qx 79 (fx p) A).run ai w= .ok (match l.findIdx? (fun q=>decide (q.1=p))with|none=>none|some k=>some (k,(l.getD k default).2)) w:=by
 unfold qx;simp only[lD,gl Kd,mh];cases A with
 |nil=>
  cases l with
  |nil=>simp[ml]
  |cons a l=>simp at h
 |cons e A=>
  cases l with
  |nil=>simp at h
  |cons a l=>
   have G:e.key=fx a.1:=by simp only[cR,ii,jg]at h;exact h.1.1
   have E:ml (.array 2 3) (fx p) (e::A) 0=none:=by simp[ml,qy]
   simp only[E];have:=wT w p (e::A) (a::l) 0 h;simpa using this
theorem C2(l:List ((Int×Int)×Value))(p:Int×Int):fT l p=(l.findIdx? (fun q=>decide (q.1=p))).map fun k=>(l.getD k default).2:=by
 induction l with
 |nil=>rfl
 |cons a l A=>
  unfold fT at*;by_cases h:a.1=p;·simp[h,ns]
  ·rw[sB (by simpa using h),A,ns];simp only[h,decide_false,mj,if_false,vJ];cases l.findIdx? (fun q=>decide (q.1=p))<;>simp
theorem fy.look{w:World}{r:Nat}{l:List ((Int×Int)×Value)}(m:fy w r l)(p:Int×Int)(T e:TypeId)(z:Value)(E:ai.underlying T=some (.map 79 e))(hz:∀w,(zeroValue e).run ai w= .ok z w)(W:World)(M:W.heap[r]? =w.heap[r]?):(mn T (.map (some r)) (aq #[af ae p.1,af ae p.2]) false).run ai W= .ok ((fT l p).getD z) W:=by
 obtain⟨G,c,h1,h2⟩:=m;rw[←M]at h1;change(mn T (.map (some r)) (fx p) false).run ai W=_;unfold mn;have A:=run_findKey W p G.toList l h2;rw[C2];cases hk:l.findIdx? (fun q=>decide (q.1=p))with
 |none=>rw[hk]at A;simp[gl E,kE,kF,h1,run_checkKey,A,hz]
 |some k=>rw[hk]at A;simp[gl E,kE,kF,h1,run_checkKey,A]
def de(w:World)(r:Nat)(o:Obj):World:={w with heap:=w.heap.setIfInBounds r o}
theorem C3(l:List ((Int×Int)×Value))(p:Int×Int)(v:Value)(h:l.findIdx? (fun q=>decide (q.1=p))=none):iq l p v=l++[(p,v)]:=by
 induction l with
 |nil=>rfl
 |cons a l A=>
  rw[ns]at h;by_cases h1:a.1=p;·simp[h1]at h
  ·simp only[h1,decide_false,mj,if_false,Option.map_eq_none_iff]at h;rw[iq,if_neg h1,A h];rfl
theorem C4(l:List ((Int×Int)×Value))(p:Int×Int)(v:Value)(k:Nat)(h:l.findIdx? (fun q=>decide (q.1=p))=some k):k<l.length∧iq l p v=l.set k (p,v)∧(l.getD k default).1=p:=by
 induction l generalizing k with
 |nil=>simp at h
 |cons a l G=>
  rw[ns]at h;by_cases h1:a.1=p;·simp only[h1,decide_true,if_true,aC]at h;subst h;exact⟨by simp,by rw[iq,if_pos h1];rfl,by simpa using h1⟩
  ·simp only[h1,decide_false,mj,if_false,Option.map_eq_some_iff]at h;obtain⟨j,hj,rfl⟩:=h;obtain⟨M,A,E⟩:=G j hj;exact⟨by simp;omega,by rw[iq,if_neg h1,A];rfl,by simpa using E⟩
theorem C5(p:Int×Int):lE 10000 (fx p) (fx p)=true:=by rw[show(10000:Nat)=9999+1 from rfl,fx,lE];simp[lE]
theorem fy.put{w:World}{r:Nat}{l:List ((Int×Int)×Value)}(m:fy w r l)(p:Int×Int)(v:Value)(T e:TypeId)(M:ai.underlying T=some (.map 79 e)):∃o,(lA T (.map (some r)) (aq #[af ae p.1,af ae p.2]) v).run ai w= .ok () (de w r o)∧fy (de w r o) r (iq l p v):=by
 have aj:=m.lt;obtain⟨A,c,h1,h2⟩:=m;have E:=run_findKey w p A.toList l h2;have ak:A.toList.length=l.length:=by have:=congrArg List.length h2;simpa using this
 have Y:∀o,(de w r o).heap[r]? =some o:=fun o=>by simp[de,aj]
 change∃o,(lA T (.map (some r)) (fx p) v).run ai w=_∧_;unfold lA;cases hk:l.findIdx? (fun q=>decide (q.1=p))with
 |none=>
  rw[hk]at E;refine⟨.map (A.push {key:=fx p,val:=v,born:=c}) (c+1),?_,?_⟩;·simp[gl M,kE,setObj,kF,h1,run_checkKey,E,de]
  ·refine⟨_,_,Y _,?_⟩;rw[C3 l p v hk];simp[h2]
 |some k=>
  rw[hk]at E;obtain⟨k1,k2,k3⟩:=C4 l p v k hk;have ac:(A.toList.getD k default).key=fx p:=by have:=congrArg (fun z=>z[k]?) h2;simp only[jB]at this;rw[aE (by omega),aE k1]at this;simp only[fa,aC,jg]at this;rw[bb,aE (by omega)];simp only[fs];rw[this.1];rw[bb,aE k1]at k3;simp only[fs]at k3;rw[k3]
  have G:k<A.size:=by simpa using(by omega:k<A.toList.length)
  have ad:A[k].key=fx p:=by have:=ac;simpa[bb,G]using this
  refine⟨.map (A.modify k fun e=>{e with key:=fx p,val:=v}) c,?_,?_⟩;·simp[gl M,kE,setObj,kF,h1,run_checkKey,E,de,BD,G,ad,C5]
  ·refine⟨_,_,Y _,?_⟩;rw[k2,hL,←h2];apply lF;intro i;by_cases O:i=k;·subst O;simp[G]
   ·have ab:¬k=i:=fun e=>O e.symm;simp[ab]
theorem th(w:World):fy (w.alloc (.map #[] 0)) w.heap.size []:=⟨#[],0,gL w _,rfl⟩
theorem qY(w:World)(r:Nat)(o:Obj):w.grownBy (de w r o) (some r):=
 ⟨rfl,rfl,rfl,by simp[de],fun k E A=>by have:r≠k:=fun e=>A (by rw[e]);simp[de,this]⟩
theorem fy.qZ{w:World}{r:Nat}{l:List ((Int×Int)×Value)}(m:fy w r l)(p:Int×Int)(v:Value)(T e:TypeId)(A:ai.underlying T=some (.map 79 e)):∃W,(lA T (.map (some r)) (aq #[af ae p.1,af ae p.2]) v).run ai w= .ok () W∧fy W r (iq l p v)∧w.grownBy W (some r):=by obtain⟨o,h1,h2⟩:=m.put p v T e A;exact⟨_,h1,h2,qY _ _ _⟩
theorem _root_.Go.World.grownBy.cellOf{w w':World}{M:Option Nat}(E:w.grownBy w' M){b i:Nat}(A:b<w.heap.size)(G:M≠some b):w'.cell? ⟨b,i,none⟩=w.cell? ⟨b,i,none⟩∧w'.frozen? ⟨b,i,none⟩=w.frozen? ⟨b,i,none⟩:=
 ⟨dc (a:=⟨b,i,none⟩) (E.block b A (fun e=>G e.symm)),kG (a:=⟨b,i,none⟩) (E.block b A (fun e=>G e.symm))⟩
section
variable {K:Type}
def bR(enc:K→Value)(l:List (K×Value)):List np:=l.mapIdx fun i q=>{key:=enc q.1,val:=q.2,born:=i}
def cG(enc:K→Value)(l:List (K×Value)):Obj:= .map (bR enc l).toArray l.length
theorem uf(enc:K→Value)(l:List (K×Value)):(bR enc l).map (fun e=>(e.key,e.val))=l.map fun q=>(enc q.1,q.2):=by apply lF;intro i;simp only[bR,jB,px,vJ];cases l[i]? <;>rfl
theorem ug(enc:K→Value)(l:List (K×Value)):(bR enc l).length=l.length:=by simp[bR]
def aS(enc:K→Value)(w:World)(r:Nat)(l:List (K×Value)):Prop:=w.heap[r]? =some (cG enc l)
theorem aS.lt{enc:K→Value}{w:World}{r:Nat}{l:List (K×Value)}(m:aS enc w r l):r<w.heap.size:=by
 rcases b7 r w.heap.size with A|A;·exact A
 ·unfold aS at m;rw[iF A]at m;cases m
theorem aS.U{enc:K→Value}{w w':World}{r:Nat}{l:List (K×Value)}(m:aS enc w r l)(h:w'.heap[r]? =w.heap[r]?):aS enc w' r l:=by unfold aS;rw[h];exact m
theorem aS.new(enc:K→Value)(w:World):aS enc (w.alloc (.map #[] 0)) w.heap.size []:=gL w _
variable [DecidableEq K]
def bm{α:Type}(l:List (K×α))(p:K):Option Nat:=l.findIdx? fun q=>decide (q.1=p)
def aT{α:Type}(l:List (K×α))(p:K):Option α:=(bm l p).bind fun k=>(l[k]?).map (·.2)
def aY{α:Type}(l:List (K×α))(p:K)(v:α):List (K×α):=match bm l p with
 |some k=>l.set k (p,v)
 |none=>l++[(p,v)]
structure jm(kt:TypeId)(enc:K→Value):Prop where
 check:∀(b:Bool) (w:World) (p:K),(oy b 10000 kt (enc p)).run ai w= .ok () w
 find:∀(w:World) (p:K) (es:List np) (l:List (K×Value)),es.map (fun e=>(e.key,e.val))=l.map (fun q=>(enc q.1,q.2))→(qx kt (enc p) es).run ai w= .ok ((bm l p).bind fun k=>(l[k]?).map fun q=>(k,q.2)) w
 bits:∀p:K,lE 10000 (enc p) (enc p)=true
theorem fv{α:Type}{l:List (K×α)}{p:K}{k:Nat}(h:bm l p=some k):k<l.length:=by unfold bm at h;rw[oB]at h;exact h.1
theorem p0{α:Type}{l:List (K×α)}{p:K}{k:Nat}(h:bm l p=some k)(A:k<l.length):(l[k]).1=p:=by unfold bm at h;rw[oB]at h;simpa using h.2.1
theorem aS.look{E:TypeId}{enc:K→Value}(G:jm E enc){w:World}{r:Nat}{l:List (K×Value)}(m:aS enc w r l)(p:K)(T e:TypeId)(z:Value)(M:ai.underlying T=some (.map E e))(hz:∀w,(zeroValue e).run ai w= .ok z w):(mn T (.map (some r)) (enc p) false).run ai w= .ok ((aT l p).getD z) w∧(mn T (.map (some r)) (enc p) true).run ai w= .ok (.tuple #[(aT l p).getD z,ay (aT l p).isSome]) w:=by
 unfold aS at m;have A:=G.find w p (bR enc l) l (uf enc l);unfold mn aT;have O:∀b,(oy b 10000 E (enc p)).run ai w= .ok () w:=fun b=>G.check b w p;cases hk:bm l p with
 |none=>rw[hk]at A;simp only[BV]at A;constructor<;>simp[gl M,kE,kF,m,cG,O,A,hz]
 |some k=>have Y:=fv hk;rw[hk]at A;simp only[j2,aE Y,fa]at A;constructor<;>simp[gl M,kE,kF,m,cG,O,A,Y]
theorem aS.put{Y:TypeId}{enc:K→Value}(G:jm Y enc){w:World}{r:Nat}{l:List (K×Value)}(m:aS enc w r l)(p:K)(v:Value)(T e:TypeId)(ab:ai.underlying T=some (.map Y e)):(lA T (.map (some r)) (enc p) v).run ai w= .ok () (de w r (cG enc (aY l p v)))∧aS enc (de w r (cG enc (aY l p v))) r (aY l p v)∧w.grownBy (de w r (cG enc (aY l p v))) (some r):=by
 have ao:=m.lt;unfold aS at m;have A:=G.find w p (bR enc l) l (uf enc l);have ac:∀b,(oy b 10000 Y (enc p)).run ai w= .ok () w:=fun b=>G.check b w p;have ax:aS enc (de w r (cG enc (aY l p v))) r (aY l p v):=by unfold aS;simp[de,ao]
 refine⟨?_,ax,qY _ _ _⟩;unfold lA;cases hk:bm l p with
 |none=>
  rw[hk]at A;simp only[BV]at A;have M:aY l p v=l++[(p,v)]:=by unfold aY;rw[hk]
  have O:cG enc (l++[(p,v)])= .map ((bR enc l).toArray.push {key:=enc p,val:=v,born:=l.length}) (l.length+1):=by unfold cG bR;rw[List.mapIdx_append];simp
  rw[M,O];simp[gl ab,kE,setObj,kF,m,cG,ac,A,de]
 |some k=>
  have E:=fv hk;have am:=p0 hk E;rw[hk]at A;simp only[j2,aE E,fa]at A;have M:aY l p v=l.set k (p,v):=by unfold aY;rw[hk]
  have aj:((bR enc l).toArray[k]?).map (·.key)=some (enc p):=by simp[bR,aE E,am]
  have O:cG enc (l.set k (p,v))= .map ((bR enc l).toArray.modify k fun e=>{e with key:=enc p,val:=v}) l.length:=by
   unfold cG;rw[List.length_set];rw[show(bR enc (l.set k (p,v))).toArray=(bR enc l).toArray.modify k fun e=>{e with key:=enc p,val:=v}from ?_];apply Array.ext';apply lF;intro i;simp only[bR,px,List.getElem?_set,Array.toList_modify,List.getElem?_modify];by_cases ad:k=i;·subst ad;simp[E]
   ·simp[ad]
  rw[M,O];have ak:∀d,(((bR enc l)[k]?).map (·.key)).getD d=enc p:=fun d=>by have:=aj;simp only[List.getElem?_toArray]at this;rw[this];rfl
  simp[gl ab,kE,setObj,kF,m,cG,ac,A,de,BD,ak,G.bits]
end
theorem bytes_beq(a b:ByteArray):(a==b)=decide (a=b):=by
 obtain⟨a⟩:=a;obtain⟨b⟩:=b;show(a==b)=_;by_cases h:a=b;·subst h;simp
 ·have:¬(qC a=qC b):=fun e=>h (by injection e);simp[h,this]
theorem EM{M:TypeId}(G:ai.underlying M=some .string):jm M (fun s:ByteArray=>ah s) where
 check b w p:=by unfold oy;simp[gl G]
 bits p:=by simp[lE,bytes_beq]
 find w p A l h:=by
  unfold qx;simp only[lD,gl G,mh]
  have:∀(A:List np) (l:List (ByteArray×Value)) (i:Nat),A.map (fun e=>(e.key,e.val))=l.map (fun q=>(ah q.1,q.2))→
    ml .string (ah p) A i=some ((bm l p).bind fun k=>(l[k]?).map fun q=>(i+k,q.2)):=by
   intro A;induction A with
   |nil=>
    intro l i h;cases l with
    |nil=>rfl
    |cons a l=>simp at h
   |cons e A ab=>
    intro l i h;cases l with
    |nil=>simp at h
    |cons a l=>
     simp only[cR,ii,jg]at h;obtain⟨⟨h1,h2⟩,O⟩:=h;unfold ml;rw[h1];unfold bm;rw[ns];by_cases E:a.1=p;·simp[qy,E,h2,bytes_beq]
     ·have Y:¬p=a.1:=fun e=>E e.symm;simp only[qy,bytes_beq,Y,E,decide_false,mj,if_false];rw[ab l (i+1) O];unfold bm;cases l.findIdx? (fun q=>decide (q.1=p))with
      |none=>rfl
      |some k=>simp[bP,sK 1 k]
  rw[this A l 0 h];simp
theorem x3{K:Type}[DecidableEq K]{E:TypeId}{enc:K→Value}{G:TypeDesc}(am:ai.underlying E=some G)(ac:∀a b:K,qy G (enc a) (enc b)=none)(ad:∀(w:World) (p q:K),(pf E (enc p) (enc q)).run ai w= .ok (decide (q=p)) w)(Y:∀(b:Bool) (w:World) (p:K),(oy b 10000 E (enc p)).run ai w= .ok () w)(bits:∀p:K,lE 10000 (enc p) (enc p)=true):jm E enc where
 check:=Y
 bits:=bits
 find w p A l h:=by
  unfold qx;simp only[lD,gl am,mh]
  have O:∀(A:List np) (l:List (K×Value)) (i:Nat),A.map (fun e=>(e.key,e.val))=l.map (fun q=>(enc q.1,q.2))→
    (qw E (enc p) A i).run ai w= .ok ((bm l p).bind fun k=>(l[k]?).map fun q=>(i+k,q.2)) w:=by
   intro A;induction A with
   |nil=>
    intro l i h;cases l with
    |nil=>simp[qw,bm]
    |cons a l=>simp at h
   |cons e A ao=>
    intro l i h;cases l with
    |nil=>simp at h
    |cons a l=>
     simp only[cR,ii,jg]at h;obtain⟨⟨h1,h2⟩,ab⟩:=h;rw[qw];unfold bm;rw[ns];simp only[lD,h1,ad,mh];by_cases M:a.1=p;·simp[M,h2]
     ·simp only[M,decide_false,mj,if_false];rw[ao l (i+1) ab];unfold bm;cases l.findIdx? (fun q=>decide (q.1=p))with
      |none=>rfl
      |some k=>simp[bP,sK 1 k]
  cases A with
  |nil=>
   cases l with
   |nil=>simp[ml,bm]
   |cons a l=>simp at h
  |cons e A=>
   cases l with
   |nil=>simp at h
   |cons a l=>
    have aj:e.key=enc a.1:=by simp only[cR,ii,jg]at h;exact h.1.1
    have ak:ml G (enc p) (e::A) 0=none:=by unfold ml;rw[aj,ac]
    simp only[ak];have:=O (e::A) (a::l) 0 h;simpa using this
structure Tu(S:Nat→Prop)(w w':World):Prop where
 os:w'.os=w.os
 tape:w'.tape=w.tape
 output:w'.output=w.output
 size:w.heap.size≤w'.heap.size
 block:∀k,k<w.heap.size→¬S k→w'.heap[k]? =w.heap[k]?
theorem Tu.refl(S:Nat→Prop)(w:World):Tu S w w:=⟨rfl,rfl,rfl,Nat.le_refl _,fun _ _ _=>rfl⟩
section
variable {S S':Nat→Prop} {w w1 w2:World} {h h':Hp}
theorem Tu.step(t:Tu S w w1)(u:Tu S' w1 w2)(G:∀k,S' k→S k∨w.heap.size≤k):Tu S w w2:=
 ⟨u.os.trans t.os,u.tape.trans t.tape,u.output.trans t.output,Nat.le_trans t.size u.size,fun k A E=>(u.block k (bK A t.size) (fun e=>by
  rcases G k e with q|q;·exact E q
  ·omega)).trans (t.block k A E)⟩
theorem Tu.trans(t:Tu S w w1)(u:Tu S w1 w2):Tu S w w2:=t.step u fun _ q=> .inl q
theorem Tu.mono(t:Tu S w w1)(A:∀k,S k→S' k):Tu S' w w1:=⟨t.os,t.tape,t.output,t.size,fun k E G=>t.block k E fun e=>G (A k e)⟩
theorem Tu.drew(t:Tu S w w1):Tu S w w1.drew:=⟨t.os,t.tape,t.output,t.size,t.block⟩
theorem Tu.drewN(t:Tu S w w1)(n:Nat):Tu S w (w1.drewN n):=⟨t.os,t.tape,t.output,t.size,t.block⟩
theorem Tu.alloc(t:Tu S w w1)(o:Obj):Tu S w (w1.alloc o):=
 ⟨t.os,t.tape,t.output,by have:=t.size;simp;omega,fun k A E=>(Below.heap_alloc _ _ _ (bK A t.size)).trans (t.block k A E)⟩
theorem Tu.set(t:Tu S w w1){p:Addr}(G:S p.block∨w.heap.size≤p.block)(v:Value):Tu S w (w1.setCell p v):=
 ⟨t.os,t.tape,t.output,by simpa[ef]using t.size,fun k E A=>(cH _ _ _ _ (fun e=>by
  subst e;rcases G with q|q;·exact A q
  ·omega)).trans (t.block k E A)⟩
theorem Tu.grown{A:Option Nat}(t:Tu S w w1)(g:w1.grownBy w2 A)(M:∀k,A=some k→S k∨w.heap.size≤k):Tu S w w2:=
 t.step (S':=fun k=>A=some k) ⟨g.os,g.tape,g.output,g.size,fun k E G=>g.block k E (fun e=>G e.symm)⟩ M
theorem Tu.below(t:Tu S w w1)(b:Below w1.heap.size w1 w2):Tu S w w2:=
 t.step (S':=fun _=>False) ⟨b.os,b.tape,b.output,b.size,fun k A _=>b.block k A⟩ (fun _ q=>q.elim)
theorem Tu.jR{N:Nat}(t:Tu S w w1)(A:N≤w.heap.size)(E:∀k,S k→N≤k):Below N w w1:=
 ⟨t.os,t.tape,t.output,t.size,fun k G=>t.block k (bK G A) (fun e=>by have:=E k e;omega)⟩
theorem Tu.I(t:Tu S w w1)(E:ao h w)(G:∀k,S k→h k=none):ao h w1:=
 E.U fun b c A=>t.block b (cD (E b c A)) (fun e=>by rw[G b e]at A;cases A)
theorem Ow.tu{B:Nat}{e:TypeId}{k:Nat}{v:Value}{n:Nat}{xs:List Value}(o:Ow w h B e k v n xs)(t:Tu S w w1)(E:∀g,v.ownBlock=some g→¬S g)(G:∀g,v.ownBlock=some g→h' g=h g):Ow w1 h' B e k v n xs:=
 o.U (fun g A=>t.block g (o.lt g A).2 (E g A)) G
theorem Ow.mO{B:Nat}{e:TypeId}{k:Nat}{v:Value}{n:Nat}{xs:List Value}(o:Ow w h B e k v n xs)(t:Tu S w w1)(A:∀g,v.ownBlock=some g→¬S g):Ow w1 h B e k v n xs:=
 o.tu t A fun _ _=>rfl
theorem Has.tu{b:Nat}{c:Array Value}(x:Has w b c)(t:Tu S w w1)(A:¬S b):Has w1 b c:=by have e:=t.block b x.lt A;exact⟨bK x.lt t.size,fun q=>(dc (a:=⟨b,q,none⟩) e).trans (x.cl q),fun q=>(kG (a:=⟨b,q,none⟩) e).trans (x.fz q)⟩
theorem aS.tu{K:Type}{enc:K→Value}{r:Nat}{l:List (K×Value)}(m:aS enc w r l)(t:Tu S w w1)(A:¬S r):aS enc w1 r l:=m.U (t.block r m.lt A)
end
def ge(l:List Int)(i:Int):Int:=l.getD i.toNat 0
def aV(l:List Int):List Value:=l.map (af ae)
def dZ(l:List Bool):List Value:=l.map ay
def IR(w:World)(h:Hp)(B g n:Nat)(l:List Int):Prop:=Ow w h B 3 1 (.slice (some ⟨g,0,none⟩) n n) n (aV l)
def BR(w:World)(h:Hp)(B g n:Nat)(l:List Bool):Prop:=Ow w h B 4 1 (.slice (some ⟨g,0,none⟩) n n) n (dZ l)
section
variable {w w1:World} {h:Hp} {B g n:Nat} {S:Nat→Prop}
theorem IR.len{l:List Int}(r:IR w h B g n l):l.length=n:=by have:=Ow.len r;simpa[aV]using this
theorem BR.len{l:List Bool}(r:BR w h B g n l):l.length=n:=by have:=Ow.len r;simpa[dZ]using this
theorem IR.get{l:List Int}(r:IR w h B g n l){i:Nat}(G:i<n):w.cell? ⟨g,i,none⟩=some (af ae (ge l i)):=by have M:=r.len;obtain⟨E,e,_,_,_,A,_⟩:=Ow.cell r (by omega);simp only[aC,cx,and_true]at e;subst e;refine A i _ ?_;simp[aV,ge,bb,aE (show i<l.length by omega)]
theorem BR.get{l:List Bool}(r:BR w h B g n l){i:Nat}(G:i<n):w.cell? ⟨g,i,none⟩=some (ay (l.getD i false)):=by have M:=r.len;obtain⟨E,e,_,_,_,A,_⟩:=Ow.cell r (by omega);simp only[aC,cx,and_true]at e;subst e;refine A i _ ?_;simp[dZ,bb,aE (show i<l.length by omega)]
theorem IR.fz{l:List Int}(r:IR w h B g n l){i:Nat}(G:i<n):w.frozen? ⟨g,i,none⟩=false:=by obtain⟨E,e,_,_,_,_,A⟩:=Ow.cell r (by omega);simp only[aC,cx,and_true]at e;subst e;exact A i
theorem BR.fz{l:List Bool}(r:BR w h B g n l){i:Nat}(G:i<n):w.frozen? ⟨g,i,none⟩=false:=by obtain⟨E,e,_,_,_,_,A⟩:=Ow.cell r (by omega);simp only[aC,cx,and_true]at e;subst e;exact A i
theorem IR.lt{l:List Int}(r:IR w h B g n l):g<w.heap.size:=(Ow.lt r g rfl).2
theorem BR.lt{l:List Bool}(r:BR w h B g n l):g<w.heap.size:=(Ow.lt r g rfl).2
theorem IR.put{l:List Int}(r:IR w h B g n l){i:Nat}(A:i<n)(x:Int):IR (w.setCell ⟨g,i,none⟩ (af ae x)) h B g n (l.set i x):=by have:=Ow.set r i (af ae x) (by omega);unfold IR aV;rw[hL];exact this
theorem BR.put{l:List Bool}(r:BR w h B g n l){i:Nat}(A:i<n)(x:Bool):BR (w.setCell ⟨g,i,none⟩ (ay x)) h B g n (l.set i x):=by have:=Ow.set r i (ay x) (by omega);unfold BR dZ;rw[hL];exact this
theorem IR.tu{l:List Int}(r:IR w h B g n l)(t:Tu S w w1)(A:¬S g):IR w1 h B g n l:=Ow.mO r t fun _ e=>by obtain rfl:=aU e;exact A
theorem BR.tu{l:List Bool}(r:BR w h B g n l)(t:Tu S w w1)(A:¬S g):BR w1 h B g n l:=Ow.mO r t fun _ e=>by obtain rfl:=aU e;exact A
theorem IR.ne{l:List Int}(r:IR w h B g n l){b:Nat}(A:g≠b)(i:Nat)(v:Value):IR (w.setCell ⟨b,i,none⟩ v) h B g n l:=Ow.setCell r (by simpa[bW]using A) v
theorem BR.ne{l:List Bool}(r:BR w h B g n l){b:Nat}(A:g≠b)(i:Nat)(v:Value):BR (w.setCell ⟨b,i,none⟩ v) h B g n l:=Ow.setCell r (by simpa[bW]using A) v
theorem IR.drewN{l:List Int}(r:IR w h B g n l)(k:Nat):IR (w.drewN k) h B g n l:=Ow.drewN r k
theorem BR.drewN{l:List Bool}(r:BR w h B g n l)(k:Nat):BR (w.drewN k) h B g n l:=Ow.drewN r k
end
def bS(x:Int):Int:=wrap64 x
def gm(c:List (List Int))(i j:Int):Int:=ge (c.getD i.toNat []) j
structure fD where
 u:List Int
 v:List Int
 tq:List Int
 owner:List Int
structure eB where
 u:List Int
 v:List Int
 c7:List Int
 src:List Int
 done:List Bool
def oY(c:List (List Int))(u v:List Int)(i j:Int):Int:=bS (bS (gm c i j-ge u i)-ge v j)
def e1(a:eB)(next:Int)(j:Nat):Int:=if a.done.getD j false=false∧(next<0∨ge a.c7 j<ge a.c7 next)then j else next
def p5(a:eB)(n:Nat):Int:=(aw n).foldl (e1 a) (-1)
def kZ(owner:List Int)(delta:Int)(s:Option eB)(j:Nat):Option eB:=
 match s with
 |none=>none
 |some a=>if a.done.getD j false=true then
   (if 0≤ge owner j∧ge owner j<a.u.length then some {a with u:=a.u.set (ge owner j).toNat (bS (ge a.u (ge owner j)+delta)),v:=a.v.set j (bS (ge a.v j-delta))}else none)
  else some {a with c7:=a.c7.set j (bS (ge a.c7 j-delta))}
def iQ(c:List (List Int))(r:Int)(a:eB)(j:Nat):eB:=
 if a.done.getD j false=false∧oY c a.u a.v r j<ge a.c7 j then{a with c7:=a.c7.set j (oY c a.u a.v r j),src:=a.src.set j r}else a
def k0(row:Int)(src:List Int):Nat→Int→List Int→List Int→Option (List Int×List Int)
 |0,_,_,_=>none
 |f+1,column,tq,owner=>
  if 0≤column∧column<src.length∧0≤ge src column∧ge src column<tq.length then
   let r:=ge src column
   if r=row then some (tq.set r.toNat column,owner.set column.toNat r)
   else k0 row src f (ge tq r) (tq.set r.toNat column) (owner.set column.toNat r)
  else none
def nU(c:List (List Int))(n:Nat)(row:Int)(tq owner:List Int):Nat→eB→Option fD
 |0,_=>none
 |f+1,a=>
  let next:=p5 a n
  if next<0 then none else
  let delta:=ge a.c7 next
  match(aw n).foldl (kZ owner delta) (some {a with u:=a.u.set row.toNat (bS (ge a.u row+delta))})with
  |none=>none
  |some a1=>
   let a2:={a1 with done:=a1.done.set next.toNat true}
   let r:=ge owner next
   if r<0 then(k0 row a2.src (n+1) next tq owner).map fun p=>⟨a2.u,a2.v,p.1,p.2⟩
   else if n≤r then none
   else nU c n row tq owner f ((aw n).foldl (iQ c r) a2)
def kj(c:List (List Int))(row:Int)(a:eB)(j:Nat):eB:={a with c7:=a.c7.set j (oY c a.u a.v row j),src:=a.src.set j row}
def cM(n:Nat):List Int:=aA n 0
def lV(c:List (List Int))(n:Nat)(row:Int)(s:fD):Option fD:=
 nU c n row s.tq s.owner (n+1) ((aw n).foldl (kj c row) ⟨s.u,s.v,cM n,cM n,aA n false⟩)
def gD(c:List (List Int))(u v:List Int)(i j:Int):Bool:=decide (bS (ge u i+ge v j)=gm c i j)
structure gE where
 used:List Bool
 tq:List Int
 owner:List Int
def iR(tight:Int→Int→Bool)(n:Nat)(fixed free:Int)(rec:Int→gE→Option (Bool×gE))(r:Int):List Nat→gE→Option (Bool×gE)
 |[],m=>some (false,m)
 |j::js,m=>
  if m.used.getD j false=true∨tight r j=false then iR tight n fixed free rec r js m
  else if(j:Int)=free then some (true,⟨m.used.set j true,m.tq.set r.toNat j,m.owner.set j r⟩)
  else if fixed<ge m.owner j then
   if n≤ge m.owner j then none else
   match rec (ge m.owner j) {m with used:=m.used.set j true}with
   |none=>none
   |some (true,m')=>some (true,{m' with tq:=m'.tq.set r.toNat j,owner:=m'.owner.set j r})
   |some (false,m')=>iR tight n fixed free rec r js m'
  else iR tight n fixed free rec r js m
def jS(tight:Int→Int→Bool)(n:Nat)(fixed free:Int):Nat→Int→gE→Option (Bool×gE)
 |0,_,_=>none
 |f+1,r,m=>iR tight n fixed free (jS tight n fixed free f) r (aw n) m
def kl(tight:Int→Int→Bool)(n:Nat)(row:Int):List Nat→List Int→List Int→Option (List Int×List Int)
 |[],tq,owner=>some (tq,owner)
 |j::js,tq,owner=>
  if ge owner j<row∨tight row j=false then kl tight n row js tq owner
  else if n≤ge owner j then none else
  match jS tight n row (ge tq row) (n+1) (ge owner j) ⟨(aA n false).set j true,tq,owner⟩with
  |none=>none
  |some (true,m)=>some (m.tq.set row.toNat j,m.owner.set j row)
  |some (false,m)=>kl tight n row js m.tq m.owner
def mQ(c:List (List Int))(n:Nat)(row:Nat)(s:fD):Option fD:=
 if 0≤ge s.tq row∧ge s.tq row≤n then(kl (gD c s.u s.v) n row (aw (ge s.tq row).toNat) s.tq s.owner).map fun p=>{s with tq:=p.1,owner:=p.2}else none
def jI(c:List (List Int)):Bool:=decide (c.length≤40)&&c.all fun row=>decide (row.length=c.length)&&row.all fun x=>decide (0≤x∧x≤1048576)
def nV(c:List (List Int)):Option fD:=
 let n:=c.length;let s0:fD:=⟨cM n,cM n,aA n (-1),aA n (-1)⟩
 ((aw n).foldl (fun s (i:Nat)=>s.bind (mQ c n i)) ((aw n).foldl (fun s (i:Nat)=>s.bind (lV c n i)) (some s0)))
example:(nV [[1,1048576],[2,0]]).map (·.tq)=some [0,1]:=by decide+kernel
example:(nV []).map (·.tq)=some []:=by decide+kernel
theorem wY(h:Hp)(w:World)(G:ao h w)(v:Value)(l:List aB)(Y:gy h v l):Calls ai 104 #[v] w fun e w'=>e= .returned (ay (decide (l.length≤262144)&&l.all fun n=>decide (n.kids.length≤400)))∧Below w.heap.size w w':=by
 obtain⟨a,ax,rfl,aM,E⟩:=Y.open;replace E:=Lib.hid (fun w' G=>E w' G);clear Y;by_cases aL:262144<l.length;·go_enter Tryz.func104,Tryz.ntmps104;go_wp2;go_ret;exact⟨by simp;omega,aD _ _⟩
 have aj:l.length≤262144:=by omega
 go_enter Tryz.func104,Tryz.ntmps104;go_wp2;go_loopw[2,4,10,11,12,13,14,15,16,17,18] (fun _ _ i _ _ _ _ _ _ _ _ wr=>∃k:Nat,k≤l.length∧i=af ae k∧Hid ((l.take k).all (fun n=>decide (n.kids.length≤400))=true)∧Below w.heap.size w wr) (fun _ _ i _ _ _ _ _ _ _ _ _=>l.length-(intOf i).toNat);case atStart=>exact⟨0,Nat.zero_le _,rfl,rfl,aD _ _⟩
 case round=>
  obtain⟨k,aG,rfl,ab,A⟩:=hrel;by_cases O:k<l.length
  ·obtain⟨b,aN,ak,ck,rfl,-,am,c1,c2,c3,c4,M,-⟩:=E.out wr (G.below A) k O;have aJ:=M.1.len.1;have ad:Hid (l.take (k+1)=l.take k++[l[k]]):=by unfold Hid;rw[List.take_add_one,aE O];rfl
   have ac:Hid (l[k]∈l):=by unfold Hid;simp
   clear M;by_cases h1:400<l[k].kids.length
   ·go_wp2;go_ret;refine⟨?_,(A.alloc A.size _)⟩;have:(l.all fun n=>decide (n.kids.length≤400))=false:=by rw[List.all_eq_false];exact⟨_,ac.out,by simpa using h1⟩
    rw[this];simp
   ·go_wp2;go_roundw;case rel=>exact⟨k+1,by omega,by go_num,by unfold Hid;rw[ad.out,List.all_append,ab.out];simp;omega,(A.alloc A.size _)⟩
    case measure=>simp[intOf];omega
  ·go_wp2;go_ret;have:=ab.out;rw[List.take_of_length_le (by omega)]at this;exact⟨by rw[this];simp[aj],A⟩
theorem _root_.Go.RowKit.Below.aM{B:Nat}{a w:World}(s:Below B a w){b:Nat}(A:B≤b)(v0 E G M:Value):Below B a ((((w.setCell ⟨b,0,none⟩ v0).setCell ⟨b,1,none⟩ E).setCell ⟨b,2,none⟩ G).setCell ⟨b,3,none⟩ M):=
 (((s.setCell (p:=⟨b,0,none⟩) A v0).setCell (p:=⟨b,1,none⟩) A E).setCell (p:=⟨b,2,none⟩) A G).setCell (p:=⟨b,3,none⟩) A M
theorem Has.four{w:World}{b:Nat}{v0 A E G:Value}(x:Has w b #[v0,A,E,G]):(w.cell? ⟨b,0,none⟩=some v0∧w.cell? ⟨b,1,none⟩=some A∧w.cell? ⟨b,2,none⟩=some E∧w.cell? ⟨b,3,none⟩=some G)∧w.frozen? ⟨b,0,none⟩=false∧w.frozen? ⟨b,1,none⟩=false∧w.frozen? ⟨b,2,none⟩=false∧w.frozen? ⟨b,3,none⟩=false:=
 ⟨⟨x.cl 0,x.cl 1,x.cl 2,x.cl 3⟩,x.fz 0,x.fz 1,x.fz 2,x.fz 3⟩
theorem Has.aM{w:World}{b:Nat}{M c1 c2 c3:Value}(x:Has w b #[M,c1,c2,c3])(v0 A E G:Value):Has ((((w.setCell ⟨b,0,none⟩ v0).setCell ⟨b,1,none⟩ A).setCell ⟨b,2,none⟩ E).setCell ⟨b,3,none⟩ G) b #[v0,A,E,G]:=by have:=(((x.fg 0 (by simp) v0).fg 1 (by simp) A).fg 2 (by simp) E).fg 3 (by simp) G;simpa using this
theorem Has.grown{w w1:World}{b:Nat}{c:Array Value}{A:Option Nat}(x:Has w b c)(g:w.grownBy w1 A)(E:A≠some b):Has w1 b c:=by have e:=g.block b x.lt (fun e=>E e.symm);exact⟨bK x.lt g.size,fun q=>(dc (a:=⟨b,q,none⟩) e).trans (x.cl q),fun q=>(kG (a:=⟨b,q,none⟩) e).trans (x.fz q)⟩
def nS(e:Ending):Prop:=∃b,e= .returned (ay b)
theorem fW(b:Bool):nS (.returned (ay b)):=⟨b,rfl⟩
end Go.Proofs.YtdplggpbgommnaaGreatDoor
