/- Blocks whose cells are known. -/
import Derived.Test.YtdplggpbgommnaaGreatDoorG00
import Derived.BigQuiet
import Derived.Deep.RegionHeld3
import Derived.StillTailTactics
import Derived.Deep.DeepCutAuto
open Array renaming getElem?_eq_none->iF
open Bool renaming and_eq_true->cy,false_eq_true->mj
open ByteArray renaming mk->qC
open Go renaming MapEntry->np,getObj->kE,heap_alloc_new->gL,madeCells->eS,run_underlying->gl
open Go.Addr.mk renaming injEq->cx
open Go.Instr renaming checkKey->oy,findAsking->qw,findKey->qx,findNow->ml,keyThatStays->BD,lookup->mn,mapUpdate->lA,sameBits->KY,sameNow->qy
open Go.IntKind renaming i64->ae
open Go.Lib renaming hid->aa
open Go.Op renaming equalIn->nn,equal->Lb
open Go.Proofs.Tryz renaming prog->ai,underlying79->Kd
open Go.Result renaming andThen_ok->mh
open Go.RowKit.Below renaming heap_setCell->cH,refl->aD
open Go.Sem renaming run_bind->lD,run->kF
open Go.Value renaming agg->aq,bool->ay,int->af,ownBlock->bW,string->ah
open Go.World renaming cell?_of_block->dc,frozen?_of_block->kG,setCell->ef
open List renaming all_append->BE,all_eq_false->qz,all_eq_true->j4,ext_getElem?->lF,find?_cons_of_neg->sB,findIdx?_cons->K5,findIdx?_eq_some_iff_getElem->oB,getD_eq_getElem?_getD->bb,getElem?_eq_getElem->aE,getElem?_mapIdx->px,getElem?_map->jB,getElem_mem->aK,length_map->dL,length_range->oA,map_append->gO,map_cons->cR,map_set->hL,range->aw,replicate_succ->pu,replicate->aA,set_append_right->ma,set_cons_zero->nu,take_add_one->j5,take_of_length_le->iG
open List.cons renaming injEq->ii
open Nat renaming add_assoc->bP,add_comm->sK,lt_of_lt_of_le->bK,lt_or_ge->b7,mul_one->La,sub_self->kH,zero_le->aW
open Option renaming bind_none->BV,bind_some->j2,getD_some->BW,map_map->vJ,map_some->fa
open Option.some renaming injEq->aC,inj->aU
open Prod.mk renaming injEq->jg
set_option maxHeartbeats 1000000
namespace Go.Proofs.YtdplggpbgommnaaGreatDoor
open Go.RowKit
structure Has(w:World)(b:Nat)(c:Array Value):Prop where
 lt:b<w.heap.size
 cl:∀o,w.cell? ⟨b,o,none⟩=c[o]?
 fz:∀o,w.frozen? ⟨b,o,none⟩=false
theorem Has.drew{w:World}{b:Nat}{c:Array Value}(h:Has w b c):Has w.drew b c:=⟨h.lt,h.cl,h.fz⟩
theorem Has.alloc{w:World}{b:Nat}{c:Array Value}(h:Has w b c)(o:Obj):Has (w.alloc o) b c:=by
 refine⟨by have:=h.lt;simp;omega,fun q=> ?_,fun q=> ?_⟩;·rw[World.cell?_alloc_past _ _ _ h.lt];exact h.cl q
 ·rw[World.frozen?_alloc_past _ _ _ h.lt];exact h.fz q
theorem Has.below{W w:World}{b:Nat}{c:Array Value}(h:Has W b c)(G:Below W.heap.size W w):Has w b c:=
 ⟨bK h.lt G.size,fun q=>(G.cell (p:=⟨b,q,none⟩) h.lt).trans (h.cl q),fun q=>(G.frozen (p:=⟨b,q,none⟩) h.lt).trans (h.fz q)⟩
theorem Has.new(w:World)(c:Array Value)(t:TypeId):Has (w.alloc (.cells c t)) w.heap.size c:=
 ⟨by simp,fun q=>by rw[World.cell?_alloc_at _ _ _ _ rfl],fun q=>World.frozen?_alloc_at _ _ _ _ rfl⟩
theorem Has.kY(w:World)(o:Obj)(c:Array Value)(t:TypeId):Has ((w.alloc o).alloc (.cells c t)) (w.heap.size+1) c:=by have:=Has.new (w.alloc o) c t;simpa using this
theorem Has.ne{w:World}{b g:Nat}{c:Array Value}(h:Has w b c)(G:g≠b)(i:Nat)(v:Value):Has (w.setCell ⟨g,i,none⟩ v) b c:=by
 refine⟨by simpa[ef]using h.lt,fun q=> ?_,fun q=> ?_⟩;·rw[dc (a:=⟨b,q,none⟩) (cH _ _ _ _ (by exact fun e=>G e.symm))];exact h.cl q
 ·rw[kG (a:=⟨b,q,none⟩) (cH _ _ _ _ (by exact fun e=>G e.symm))];exact h.fz q
theorem Has.fg{w:World}{b:Nat}{c:Array Value}(x:Has w b c)(i:Nat)(G:i<c.size)(v:Value):Has (w.setCell ⟨b,i,none⟩ v) b (c.setIfInBounds i v):=by
 refine⟨by simpa[ef]using x.lt,fun o=> ?_,fun o=>by have:=x.fz o;simp[this]⟩;by_cases e:o=i;·subst e;rw[World.cell?_setCell_same _ _ _ ((x.cl o).trans (Array.getElem?_eq_getElem G))];simp[G]
 ·rw[World.cell?_setCell_other _ _ _ _ (by simp),x.cl o];rw[Array.getElem?_setIfInBounds_ne (fun h=>e h.symm)]
theorem wS(w:World)(a b c d:Int):(nn 10000 79 (aq #[af ae a,af ae b]) (aq #[af ae c,af ae d])).run ai w= .ok ((a==c)&&(b==d)) w:=by
 have hs:∀w,(sizeOf 3).run ai w= .ok 1 w:=fun _=>by kernel_rfl
 have G:∀(x y:Value) w,(part 3 #[x,y] 0).run ai w= .ok x w:=fun _ _ _=>by kernel_rfl
 have J:∀(x y:Value) w,(part 3 #[x,y] 1).run ai w= .ok y w:=fun _ _ _=>by kernel_rfl
 have he:∀(x y:Int) w,(nn 9999 3 (af ae x) (af ae y)).run ai w= .ok (x==y) w:=fun x y w=>run_equalIn_int w 9998 3 ae ae x y Tryz.underlying3;rw[show(10000:Nat)=9999+1 from rfl,nn];simp only[lD,gl Kd,mh,hs];rw[Std.Legacy.Range.forIn_eq_forIn_range'];simp only[Std.Legacy.Range.size,Nat.sub_zero,Nat.add_sub_cancel,Nat.div_one,List.range',List.forIn_cons,List.forIn_nil,lD,G,Nat.zero_add,La,mh,he];cases h1:a==c<;>cases h2:b==d<;>simp[lD,J,he,h2,Sem.run_pure,Result.andThen]
attribute [go_sem] wS
def fx(p:Int×Int):Value:=aq #[af ae p.1,af ae p.2]
def fy(w:World)(r:Nat)(l:List ((Int×Int)×Value)):Prop:=∃es clock,w.heap[r]? =some (.map es clock)/\es.toList.map (fun e=>(e.key,e.val))=l.map fun q=>(fx q.1,q.2)
theorem fy.keep{w w':World}{r:Nat}{l:List ((Int×Int)×Value)}(m:fy w r l)(h:w'.heap[r]? =w.heap[r]?):fy w' r l:=by obtain⟨es,c,h1,h2⟩:=m;exact⟨es,c,by rw[h];exact h1,h2⟩
theorem fy.lt{w:World}{r:Nat}{l:List ((Int×Int)×Value)}(m:fy w r l):r<w.heap.size:=by
 obtain⟨es,c,h1,h2⟩:=m;rcases b7 r w.heap.size with G|G;·exact G
 ·rw[iF G]at h1;cases h1
def fT(l:List ((Int×Int)×Value))(p:Int×Int):Option Value:=(l.find? fun q=>decide (q.1=p)).map (·.2)
def iq:List ((Int×Int)×Value)->Int×Int->Value->List ((Int×Int)×Value)
 |[],p,v=>[(p,v)]
 |q::l,p,v=>if q.1=p then(p,v)::l else q::iq l p v
theorem qX(l:List ((Int×Int)×Value))(p q:Int×Int)(v:Value):fT (iq l p v) q=if q=p then some v else fT l q:=by
 induction l with
 |nil=>
  by_cases h:q=p;·subst h;simp[fT,iq]
  ·have:p≠q:=fun e=>h e.symm;simp[fT,iq,h,this]
 |cons a l J=>
  unfold iq;by_cases h1:a.1=p
  ·rw[if_pos h1];by_cases h:q=p;·subst h;simp[fT]
   ·have h2:p≠q:=fun e=>h e.symm;have G:a.1≠q:=fun e=>h (by rw[<-e,h1]);simp[fT,h,h2,G]
  ·rw[if_neg h1];by_cases h2:a.1=q;·have:q≠p:=fun e=>h1 (by rw[h2,e]);simp[fT,h2,this]
   ·unfold fT at*;rw[sB (by simpa using h2),J];by_cases h:q=p;·simp[h]
    ·rw[if_neg h,if_neg h,sB (by simpa using h2)]
theorem C1(w:World)(p q:Int×Int):(Lb 79 (fx p) (fx q)).run ai w= .ok (decide (q=p)) w:=by
 have h:(Lb 79 (fx p) (fx q)).run ai w= .ok ((p.1==q.1)&&(p.2==q.2)) w:=wS w p.1 p.2 q.1 q.2;rw[h];have e:((p.1==q.1)&&(p.2==q.2))=decide (q=p):=by rw[Bool.eq_iff_iff];simp only[cy,beq_iff_eq,decide_eq_true_eq,Prod.ext_iff];constructor<;>(rintro⟨a,b⟩;exact⟨a.symm,b.symm⟩)
 rw[e]
theorem wT(w:World)(p:Int×Int):∀(es:List np) (l:List ((Int×Int)×Value)) (i:Nat),es.map (fun e=>(e.key,e.val))=l.map (fun q=>(fx q.1,q.2))->(qw 79 (fx p) es i).run ai w= .ok (match l.findIdx? (fun q=>decide (q.1=p))with|none=>none|some k=>some (i+k,(l.getD k default).2)) w
 |[],l,i,h=>by
  cases l with
  |nil=>simp[qw]
  |cons a l=>simp at h
 |e::es,l,i,h=>by
  cases l with
  |nil=>simp at h
  |cons a l=>
   simp only[cR,ii,jg]at h;obtain⟨⟨h1,h2⟩,G⟩:=h;rw[qw];simp only[lD,h1,C1,mh];by_cases hp:a.1=p;·simp[hp,h2,K5]
   ·rw[if_neg (by simpa using hp),wT w p es l (i+1) G];rw[K5];simp only[hp,decide_false,mj,if_false];cases l.findIdx? (fun q=>decide (q.1=p))with
    |none=>rfl
    |some k=>simp;omega
theorem run_checkKey(w:World)(b:Bool)(p:Int×Int):(oy b 10000 79 (fx p)).run ai w= .ok () w:=by cases b<;>kernel_rfl
theorem run_findKey(w:World)(p:Int×Int)(es:List np)(l:List ((Int×Int)×Value))(h:es.map (fun e=>(e.key,e.val))=l.map (fun q=>(fx q.1,q.2))):(qx 79 (fx p) es).run ai w= .ok (match l.findIdx? (fun q=>decide (q.1=p))with|none=>none|some k=>some (k,(l.getD k default).2)) w:=by
 unfold qx;simp only[lD,gl Kd,mh];cases es with
 |nil=>
  cases l with
  |nil=>simp[ml]
  |cons a l=>simp at h
 |cons e es=>
  cases l with
  |nil=>simp at h
  |cons a l=>
   have G:e.key=fx a.1:=by simp only[cR,ii,jg]at h;exact h.1.1
   have hn:ml (.array 2 3) (fx p) (e::es) 0=none:=by simp[ml,qy]
   simp only[hn];have:=wT w p (e::es) (a::l) 0 h;simpa using this
theorem C2(l:List ((Int×Int)×Value))(p:Int×Int):fT l p=(l.findIdx? (fun q=>decide (q.1=p))).map fun k=>(l.getD k default).2:=by
 induction l with
 |nil=>rfl
 |cons a l G=>
  unfold fT at*;by_cases h:a.1=p;·simp[h,K5]
  ·rw[sB (by simpa using h),G,K5];simp only[h,decide_false,mj,if_false,vJ];cases l.findIdx? (fun q=>decide (q.1=p))<;>simp
theorem fy.look{w:World}{r:Nat}{l:List ((Int×Int)×Value)}(m:fy w r l)(p:Int×Int)(T e:TypeId)(z:Value)(G:ai.underlying T=some (.map 79 e))(hz:∀w,(zeroValue e).run ai w= .ok z w)(W:World)(J:W.heap[r]? =w.heap[r]?):(mn T (.map (some r)) (aq #[af ae p.1,af ae p.2]) false).run ai W= .ok ((fT l p).getD z) W:=by
 obtain⟨es,c,h1,h2⟩:=m;rw[<-J]at h1;change(mn T (.map (some r)) (fx p) false).run ai W=_;unfold mn;have hf:=run_findKey W p es.toList l h2;rw[C2];cases hk:l.findIdx? (fun q=>decide (q.1=p))with
 |none=>rw[hk]at hf;simp[gl G,kE,kF,h1,run_checkKey,hf,hz]
 |some k=>rw[hk]at hf;simp[gl G,kE,kF,h1,run_checkKey,hf]
def sG(w:World)(r:Nat)(o:Obj):World:={w with heap:=w.heap.setIfInBounds r o}
theorem C3(l:List ((Int×Int)×Value))(p:Int×Int)(v:Value)(h:l.findIdx? (fun q=>decide (q.1=p))=none):iq l p v=l++[(p,v)]:=by
 induction l with
 |nil=>rfl
 |cons a l G=>
  rw[K5]at h;by_cases h1:a.1=p;·simp[h1]at h
  ·simp only[h1,decide_false,mj,if_false,Option.map_eq_none_iff]at h;rw[iq,if_neg h1,G h];rfl
theorem C4(l:List ((Int×Int)×Value))(p:Int×Int)(v:Value)(k:Nat)(h:l.findIdx? (fun q=>decide (q.1=p))=some k):k<l.length/\iq l p v=l.set k (p,v)/\(l.getD k default).1=p:=by
 induction l generalizing k with
 |nil=>simp at h
 |cons a l O=>
  rw[K5]at h;by_cases h1:a.1=p;·simp only[h1,decide_true,if_true,aC]at h;subst h;exact⟨by simp,by rw[iq,if_pos h1];rfl,by simpa using h1⟩
  ·simp only[h1,decide_false,mj,if_false,Option.map_eq_some_iff]at h;obtain⟨j,hj,rfl⟩:=h;obtain⟨Y,G,J⟩:=O j hj;exact⟨by simp;omega,by rw[iq,if_neg h1,G];rfl,by simpa using J⟩
theorem C5(p:Int×Int):KY 10000 (fx p) (fx p)=true:=by rw[show(10000:Nat)=9999+1 from rfl,fx,KY];simp[KY]
theorem fy.put{w:World}{r:Nat}{l:List ((Int×Int)×Value)}(m:fy w r l)(p:Int×Int)(v:Value)(T e:TypeId)(J:ai.underlying T=some (.map 79 e)):∃o,(lA T (.map (some r)) (aq #[af ae p.1,af ae p.2]) v).run ai w= .ok () (sG w r o)/\fy (sG w r o) r (iq l p v):=by
 have am:=m.lt;obtain⟨es,c,h1,h2⟩:=m;have hf:=run_findKey w p es.toList l h2;have ao:es.toList.length=l.length:=by have:=congrArg List.length h2;simpa using this
 have Y:∀o,(sG w r o).heap[r]? =some o:=fun o=>by simp[sG,am]
 change∃o,(lA T (.map (some r)) (fx p) v).run ai w=_/\_;unfold lA;cases hk:l.findIdx? (fun q=>decide (q.1=p))with
 |none=>
  rw[hk]at hf;refine⟨.map (es.push {key:=fx p,val:=v,born:=c}) (c+1),?_,?_⟩;·simp[gl J,kE,setObj,kF,h1,run_checkKey,hf,sG]
  ·refine⟨_,_,Y _,?_⟩;rw[C3 l p v hk];simp[h2]
 |some k=>
  rw[hk]at hf;obtain⟨k1,k2,k3⟩:=C4 l p v k hk;have aj:(es.toList.getD k default).key=fx p:=by have:=congrArg (fun z=>z[k]?) h2;simp only[jB]at this;rw[aE (by omega),aE k1]at this;simp only[fa,aC,jg]at this;rw[bb,aE (by omega)];simp only[BW];rw[this.1];rw[bb,aE k1]at k3;simp only[BW]at k3;rw[k3]
  have G:k<es.size:=by simpa using(by omega:k<es.toList.length)
  have ak:es[k].key=fx p:=by have:=aj;simpa[bb,G]using this
  refine⟨.map (es.modify k fun e=>{e with key:=fx p,val:=v}) c,?_,?_⟩;·simp[gl J,kE,setObj,kF,h1,run_checkKey,hf,sG,BD,G,ak,C5]
  ·refine⟨_,_,Y _,?_⟩;rw[k2,hL,<-h2];apply lF;intro i;by_cases O:i=k;·subst O;simp[G]
   ·have ab:¬k=i:=fun e=>O e.symm;simp[ab]
theorem th(w:World):fy (w.alloc (.map #[] 0)) w.heap.size []:=⟨#[],0,gL w _,rfl⟩
theorem qY(w:World)(r:Nat)(o:Obj):w.grownBy (sG w r o) (some r):=
 ⟨rfl,rfl,rfl,by simp[sG],fun k J G=>by have:r≠k:=fun e=>G (by rw[e]);simp[sG,this]⟩
theorem fy.qZ{w:World}{r:Nat}{l:List ((Int×Int)×Value)}(m:fy w r l)(p:Int×Int)(v:Value)(T e:TypeId)(G:ai.underlying T=some (.map 79 e)):∃W,(lA T (.map (some r)) (aq #[af ae p.1,af ae p.2]) v).run ai w= .ok () W/\fy W r (iq l p v)/\w.grownBy W (some r):=by obtain⟨o,h1,h2⟩:=m.put p v T e G;exact⟨_,h1,h2,qY _ _ _⟩
theorem _root_.Go.World.grownBy.cellOf{w w':World}{row:Option Nat}(J:w.grownBy w' row){b i:Nat}(G:b<w.heap.size)(O:row≠some b):w'.cell? ⟨b,i,none⟩=w.cell? ⟨b,i,none⟩/\w'.frozen? ⟨b,i,none⟩=w.frozen? ⟨b,i,none⟩:=
 ⟨dc (a:=⟨b,i,none⟩) (J.block b G (fun e=>O e.symm)),kG (a:=⟨b,i,none⟩) (J.block b G (fun e=>O e.symm))⟩
section
variable {K:Type}
def bR(enc:K->Value)(l:List (K×Value)):List np:=l.mapIdx fun i q=>{key:=enc q.1,val:=q.2,born:=i}
def cG(enc:K->Value)(l:List (K×Value)):Obj:= .map (bR enc l).toArray l.length
theorem uf(enc:K->Value)(l:List (K×Value)):(bR enc l).map (fun e=>(e.key,e.val))=l.map fun q=>(enc q.1,q.2):=by apply lF;intro i;simp only[bR,jB,px,vJ];cases l[i]? <;>rfl
theorem ug(enc:K->Value)(l:List (K×Value)):(bR enc l).length=l.length:=by simp[bR]
def aS(enc:K->Value)(w:World)(r:Nat)(l:List (K×Value)):Prop:=w.heap[r]? =some (cG enc l)
theorem aS.lt{enc:K->Value}{w:World}{r:Nat}{l:List (K×Value)}(m:aS enc w r l):r<w.heap.size:=by
 rcases b7 r w.heap.size with G|G;·exact G
 ·unfold aS at m;rw[iF G]at m;cases m
theorem aS.keep{enc:K->Value}{w w':World}{r:Nat}{l:List (K×Value)}(m:aS enc w r l)(h:w'.heap[r]? =w.heap[r]?):aS enc w' r l:=by unfold aS;rw[h];exact m
theorem aS.new(enc:K->Value)(w:World):aS enc (w.alloc (.map #[] 0)) w.heap.size []:=gL w _
variable [DecidableEq K]
def bm{α:Type}(l:List (K×α))(p:K):Option Nat:=l.findIdx? fun q=>decide (q.1=p)
def aT{α:Type}(l:List (K×α))(p:K):Option α:=(bm l p).bind fun k=>(l[k]?).map (·.2)
def aY{α:Type}(l:List (K×α))(p:K)(v:α):List (K×α):=match bm l p with
 |some k=>l.set k (p,v)
 |none=>l++[(p,v)]
structure jm(kt:TypeId)(enc:K->Value):Prop where
 check:∀(b:Bool) (w:World) (p:K),(oy b 10000 kt (enc p)).run ai w= .ok () w
 find:∀(w:World) (p:K) (es:List np) (l:List (K×Value)),es.map (fun e=>(e.key,e.val))=l.map (fun q=>(enc q.1,q.2))->(qx kt (enc p) es).run ai w= .ok ((bm l p).bind fun k=>(l[k]?).map fun q=>(k,q.2)) w
 bits:∀p:K,KY 10000 (enc p) (enc p)=true
theorem fv{α:Type}{l:List (K×α)}{p:K}{k:Nat}(h:bm l p=some k):k<l.length:=by unfold bm at h;rw[oB]at h;exact h.1
theorem p0{α:Type}{l:List (K×α)}{p:K}{k:Nat}(h:bm l p=some k)(G:k<l.length):(l[k]).1=p:=by unfold bm at h;rw[oB]at h;simpa using h.2.1
theorem aS.look{G:TypeId}{enc:K->Value}(J:jm G enc){w:World}{r:Nat}{l:List (K×Value)}(m:aS enc w r l)(p:K)(T e:TypeId)(z:Value)(O:ai.underlying T=some (.map G e))(hz:∀w,(zeroValue e).run ai w= .ok z w):(mn T (.map (some r)) (enc p) false).run ai w= .ok ((aT l p).getD z) w/\(mn T (.map (some r)) (enc p) true).run ai w= .ok (.tuple #[(aT l p).getD z,ay (aT l p).isSome]) w:=by
 unfold aS at m;have hf:=J.find w p (bR enc l) l (uf enc l);unfold mn aT;have hc:∀b,(oy b 10000 G (enc p)).run ai w= .ok () w:=fun b=>J.check b w p;cases hk:bm l p with
 |none=>rw[hk]at hf;simp only[BV]at hf;constructor<;>simp[gl O,kE,kF,m,cG,hc,hf,hz]
 |some k=>have Y:=fv hk;rw[hk]at hf;simp only[j2,aE Y,fa]at hf;constructor<;>simp[gl O,kE,kF,m,cG,hc,hf,Y]
theorem aS.put{ab:TypeId}{enc:K->Value}(J:jm ab enc){w:World}{r:Nat}{l:List (K×Value)}(m:aS enc w r l)(p:K)(v:Value)(T e:TypeId)(aj:ai.underlying T=some (.map ab e)):(lA T (.map (some r)) (enc p) v).run ai w= .ok () (sG w r (cG enc (aY l p v)))/\aS enc (sG w r (cG enc (aY l p v))) r (aY l p v)/\w.grownBy (sG w r (cG enc (aY l p v))) (some r):=by
 have aB:=m.lt;unfold aS at m;have hf:=J.find w p (bR enc l) l (uf enc l);have hc:∀b,(oy b 10000 ab (enc p)).run ai w= .ok () w:=fun b=>J.check b w p;have hm:aS enc (sG w r (cG enc (aY l p v))) r (aY l p v):=by unfold aS;simp[sG,aB]
 refine⟨?_,hm,qY _ _ _⟩;unfold lA;cases hk:bm l p with
 |none=>
  rw[hk]at hf;simp only[BV]at hf;have O:aY l p v=l++[(p,v)]:=by unfold aY;rw[hk]
  have Y:cG enc (l++[(p,v)])= .map ((bR enc l).toArray.push {key:=enc p,val:=v,born:=l.length}) (l.length+1):=by unfold cG bR;rw[List.mapIdx_append];simp
  rw[O,Y];simp[gl aj,kE,setObj,kF,m,cG,hc,hf,sG]
 |some k=>
  have G:=fv hk;have ax:=p0 hk G;rw[hk]at hf;simp only[j2,aE G,fa]at hf;have O:aY l p v=l.set k (p,v):=by unfold aY;rw[hk]
  have am:((bR enc l).toArray[k]?).map (·.key)=some (enc p):=by simp[bR,aE G,ax]
  have Y:cG enc (l.set k (p,v))= .map ((bR enc l).toArray.modify k fun e=>{e with key:=enc p,val:=v}) l.length:=by
   unfold cG;rw[List.length_set];rw[show(bR enc (l.set k (p,v))).toArray=(bR enc l).toArray.modify k fun e=>{e with key:=enc p,val:=v}from ?_];apply Array.ext';apply lF;intro i;simp only[bR,px,List.getElem?_set,Array.toList_modify,List.getElem?_modify];by_cases ak:k=i;·subst ak;simp[G]
   ·simp[ak]
  rw[O,Y];have ao:∀d,(((bR enc l)[k]?).map (·.key)).getD d=enc p:=fun d=>by have:=am;simp only[List.getElem?_toArray]at this;rw[this];rfl
  simp[gl aj,kE,setObj,kF,m,cG,hc,hf,sG,BD,ao,J.bits]
end
theorem bytes_beq(a b:ByteArray):(a==b)=decide (a=b):=by
 obtain⟨a⟩:=a;obtain⟨b⟩:=b;show(a==b)=_;by_cases h:a=b;·subst h;simp
 ·have:¬(qC a=qC b):=fun e=>h (by injection e);simp[h,this]
theorem EM{J:TypeId}(G:ai.underlying J=some .string):jm J (fun s:ByteArray=>ah s) where
 check b w p:=by unfold oy;simp[gl G]
 bits p:=by simp[KY,bytes_beq]
 find w p es l h:=by
  unfold qx;simp only[lD,gl G,mh]
  have:∀(es:List np) (l:List (ByteArray×Value)) (i:Nat),es.map (fun e=>(e.key,e.val))=l.map (fun q=>(ah q.1,q.2))->
    ml .string (ah p) es i=some ((bm l p).bind fun k=>(l[k]?).map fun q=>(i+k,q.2)):=by
   intro es;induction es with
   |nil=>
    intro l i h;cases l with
    |nil=>rfl
    |cons a l=>simp at h
   |cons e es ab=>
    intro l i h;cases l with
    |nil=>simp at h
    |cons a l=>
     simp only[cR,ii,jg]at h;obtain⟨⟨h1,h2⟩,O⟩:=h;unfold ml;rw[h1];unfold bm;rw[K5];by_cases hp:a.1=p;·simp[qy,hp,h2,bytes_beq]
     ·have Y:¬p=a.1:=fun e=>hp e.symm;simp only[qy,bytes_beq,Y,hp,decide_false,mj,if_false];rw[ab l (i+1) O];unfold bm;cases l.findIdx? (fun q=>decide (q.1=p))with
      |none=>rfl
      |some k=>simp[bP,sK 1 k]
  rw[this es l 0 h];simp
theorem x3{K:Type}[DecidableEq K]{G:TypeId}{enc:K->Value}{U:TypeDesc}(ak:ai.underlying G=some U)(Y:∀a b:K,qy U (enc a) (enc b)=none)(ab:∀(w:World) (p q:K),(Lb G (enc p) (enc q)).run ai w= .ok (decide (q=p)) w)(check:∀(b:Bool) (w:World) (p:K),(oy b 10000 G (enc p)).run ai w= .ok () w)(bits:∀p:K,KY 10000 (enc p) (enc p)=true):jm G enc where
 check:=check
 bits:=bits
 find w p es l h:=by
  unfold qx;simp only[lD,gl ak,mh]
  have J:∀(es:List np) (l:List (K×Value)) (i:Nat),es.map (fun e=>(e.key,e.val))=l.map (fun q=>(enc q.1,q.2))->
    (qw G (enc p) es i).run ai w= .ok ((bm l p).bind fun k=>(l[k]?).map fun q=>(i+k,q.2)) w:=by
   intro es;induction es with
   |nil=>
    intro l i h;cases l with
    |nil=>simp[qw,bm]
    |cons a l=>simp at h
   |cons e es am=>
    intro l i h;cases l with
    |nil=>simp at h
    |cons a l=>
     simp only[cR,ii,jg]at h;obtain⟨⟨h1,h2⟩,O⟩:=h;rw[qw];unfold bm;rw[K5];simp only[lD,h1,ab,mh];by_cases hp:a.1=p;·simp[hp,h2]
     ·simp only[hp,decide_false,mj,if_false];rw[am l (i+1) O];unfold bm;cases l.findIdx? (fun q=>decide (q.1=p))with
      |none=>rfl
      |some k=>simp[bP,sK 1 k]
  cases es with
  |nil=>
   cases l with
   |nil=>simp[ml,bm]
   |cons a l=>simp at h
  |cons e es=>
   cases l with
   |nil=>simp at h
   |cons a l=>
    have aj:e.key=enc a.1:=by simp only[cR,ii,jg]at h;exact h.1.1
    have hn:ml U (enc p) (e::es) 0=none:=by unfold ml;rw[aj,Y]
    simp only[hn];have:=J (e::es) (a::l) 0 h;simpa using this
structure Tu(S:Nat->Prop)(w w':World):Prop where
 os:w'.os=w.os
 tape:w'.tape=w.tape
 output:w'.output=w.output
 size:w.heap.size<=w'.heap.size
 block:∀k,k<w.heap.size->¬S k->w'.heap[k]? =w.heap[k]?
theorem Tu.refl(S:Nat->Prop)(w:World):Tu S w w:=⟨rfl,rfl,rfl,Nat.le_refl _,fun _ _ _=>rfl⟩
section
variable {S S':Nat->Prop} {w w1 w2:World} {h h':Hp}
theorem Tu.step(t:Tu S w w1)(u:Tu S' w1 w2)(hS:∀k,S' k->S k\/w.heap.size<=k):Tu S w w2:=
 ⟨u.os.trans t.os,u.tape.trans t.tape,u.output.trans t.output,Nat.le_trans t.size u.size,fun k G hn=>(u.block k (bK G t.size) (fun e=>by
  rcases hS k e with q|q;·exact hn q
  ·omega)).trans (t.block k G hn)⟩
theorem Tu.trans(t:Tu S w w1)(u:Tu S w1 w2):Tu S w w2:=t.step u fun _ q=> .inl q
theorem Tu.mono(t:Tu S w w1)(hS:∀k,S k->S' k):Tu S' w w1:=⟨t.os,t.tape,t.output,t.size,fun k G hn=>t.block k G fun e=>hn (hS k e)⟩
theorem Tu.drew(t:Tu S w w1):Tu S w w1.drew:=⟨t.os,t.tape,t.output,t.size,t.block⟩
theorem Tu.drewN(t:Tu S w w1)(n:Nat):Tu S w (w1.drewN n):=⟨t.os,t.tape,t.output,t.size,t.block⟩
theorem Tu.alloc(t:Tu S w w1)(o:Obj):Tu S w (w1.alloc o):=
 ⟨t.os,t.tape,t.output,by have:=t.size;simp;omega,fun k G hn=>(Below.heap_alloc _ _ _ (bK G t.size)).trans (t.block k G hn)⟩
theorem Tu.set(t:Tu S w w1){p:Addr}(hp:S p.block\/w.heap.size<=p.block)(v:Value):Tu S w (w1.setCell p v):=
 ⟨t.os,t.tape,t.output,by simpa[ef]using t.size,fun k G hn=>(cH _ _ _ _ (fun e=>by
  subst e;rcases hp with q|q;·exact hn q
  ·omega)).trans (t.block k G hn)⟩
theorem Tu.grown{row:Option Nat}(t:Tu S w w1)(g:w1.grownBy w2 row)(hr:∀k,row=some k->S k\/w.heap.size<=k):Tu S w w2:=
 t.step (S':=fun k=>row=some k) ⟨g.os,g.tape,g.output,g.size,fun k G hn=>g.block k G (fun e=>hn e.symm)⟩ hr
theorem Tu.below(t:Tu S w w1)(b:Below w1.heap.size w1 w2):Tu S w w2:=
 t.step (S':=fun _=>False) ⟨b.os,b.tape,b.output,b.size,fun k G _=>b.block k G⟩ (fun _ q=>q.elim)
theorem Tu.jR{N:Nat}(t:Tu S w w1)(G:N<=w.heap.size)(hS:∀k,S k->N<=k):Below N w w1:=
 ⟨t.os,t.tape,t.output,t.size,fun k J=>t.block k (bK J G) (fun e=>by have:=hS k e;omega)⟩
theorem Tu.I(t:Tu S w w1)(G:ao h w)(hS:∀k,S k->h k=none):ao h w1:=
 G.keep fun b c hc=>t.block b (cD (G b c hc)) (fun e=>by rw[hS b e]at hc;cases hc)
theorem Ow.tu{B:Nat}{e:TypeId}{k:Nat}{v:Value}{n:Nat}{xs:List Value}(o:Ow w h B e k v n xs)(t:Tu S w w1)(hS:∀g,v.ownBlock=some g->¬S g)(J:∀g,v.ownBlock=some g->h' g=h g):Ow w1 h' B e k v n xs:=
 o.keep (fun g G=>t.block g (o.lt g G).2 (hS g G)) J
theorem Ow.mO{B:Nat}{e:TypeId}{k:Nat}{v:Value}{n:Nat}{xs:List Value}(o:Ow w h B e k v n xs)(t:Tu S w w1)(hS:∀g,v.ownBlock=some g->¬S g):Ow w1 h B e k v n xs:=
 o.tu t hS fun _ _=>rfl
theorem Has.tu{b:Nat}{c:Array Value}(x:Has w b c)(t:Tu S w w1)(G:¬S b):Has w1 b c:=by have e:=t.block b x.lt G;exact⟨bK x.lt t.size,fun q=>(dc (a:=⟨b,q,none⟩) e).trans (x.cl q),fun q=>(kG (a:=⟨b,q,none⟩) e).trans (x.fz q)⟩
theorem aS.tu{K:Type}{enc:K->Value}{r:Nat}{l:List (K×Value)}(m:aS enc w r l)(t:Tu S w w1)(G:¬S r):aS enc w1 r l:=m.keep (t.block r m.lt G)
end
def ge(l:List Int)(i:Int):Int:=l.getD i.toNat 0
def aV(l:List Int):List Value:=l.map (af ae)
def dZ(l:List Bool):List Value:=l.map ay
def IR(w:World)(h:Hp)(B g n:Nat)(l:List Int):Prop:=Ow w h B 3 1 (.slice (some ⟨g,0,none⟩) n n) n (aV l)
def BR(w:World)(h:Hp)(B g n:Nat)(l:List Bool):Prop:=Ow w h B 4 1 (.slice (some ⟨g,0,none⟩) n n) n (dZ l)
section
variable {w w1:World} {h:Hp} {B g n:Nat} {S:Nat->Prop}
theorem IR.len{l:List Int}(r:IR w h B g n l):l.length=n:=by have:=Ow.len r;simpa[aV]using this
theorem BR.len{l:List Bool}(r:BR w h B g n l):l.length=n:=by have:=Ow.len r;simpa[dZ]using this
theorem IR.get{l:List Int}(r:IR w h B g n l){i:Nat}(G:i<n):w.cell? ⟨g,i,none⟩=some (af ae (ge l i)):=by have J:=r.len;obtain⟨g',e,_,_,_,hc,_⟩:=Ow.cell r (by omega);simp only[aC,cx,and_true]at e;subst e;refine hc i _ ?_;simp[aV,ge,bb,aE (show i<l.length by omega)]
theorem BR.get{l:List Bool}(r:BR w h B g n l){i:Nat}(G:i<n):w.cell? ⟨g,i,none⟩=some (ay (l.getD i false)):=by have J:=r.len;obtain⟨g',e,_,_,_,hc,_⟩:=Ow.cell r (by omega);simp only[aC,cx,and_true]at e;subst e;refine hc i _ ?_;simp[dZ,bb,aE (show i<l.length by omega)]
theorem IR.fz{l:List Int}(r:IR w h B g n l){i:Nat}(G:i<n):w.frozen? ⟨g,i,none⟩=false:=by obtain⟨g',e,_,_,_,_,hf⟩:=Ow.cell r (by omega);simp only[aC,cx,and_true]at e;subst e;exact hf i
theorem BR.fz{l:List Bool}(r:BR w h B g n l){i:Nat}(G:i<n):w.frozen? ⟨g,i,none⟩=false:=by obtain⟨g',e,_,_,_,_,hf⟩:=Ow.cell r (by omega);simp only[aC,cx,and_true]at e;subst e;exact hf i
theorem IR.lt{l:List Int}(r:IR w h B g n l):g<w.heap.size:=(Ow.lt r g rfl).2
theorem BR.lt{l:List Bool}(r:BR w h B g n l):g<w.heap.size:=(Ow.lt r g rfl).2
theorem IR.put{l:List Int}(r:IR w h B g n l){i:Nat}(G:i<n)(x:Int):IR (w.setCell ⟨g,i,none⟩ (af ae x)) h B g n (l.set i x):=by have:=Ow.set r i (af ae x) (by omega);unfold IR aV;rw[hL];exact this
theorem BR.put{l:List Bool}(r:BR w h B g n l){i:Nat}(G:i<n)(x:Bool):BR (w.setCell ⟨g,i,none⟩ (ay x)) h B g n (l.set i x):=by have:=Ow.set r i (ay x) (by omega);unfold BR dZ;rw[hL];exact this
theorem IR.tu{l:List Int}(r:IR w h B g n l)(t:Tu S w w1)(hS:¬S g):IR w1 h B g n l:=Ow.mO r t fun _ e=>by obtain rfl:=aU e;exact hS
theorem BR.tu{l:List Bool}(r:BR w h B g n l)(t:Tu S w w1)(hS:¬S g):BR w1 h B g n l:=Ow.mO r t fun _ e=>by obtain rfl:=aU e;exact hS
theorem IR.ne{l:List Int}(r:IR w h B g n l){b:Nat}(G:g≠b)(i:Nat)(v:Value):IR (w.setCell ⟨b,i,none⟩ v) h B g n l:=Ow.setCell r (by simpa[bW]using G) v
theorem BR.ne{l:List Bool}(r:BR w h B g n l){b:Nat}(G:g≠b)(i:Nat)(v:Value):BR (w.setCell ⟨b,i,none⟩ v) h B g n l:=Ow.setCell r (by simpa[bW]using G) v
theorem IR.drewN{l:List Int}(r:IR w h B g n l)(k:Nat):IR (w.drewN k) h B g n l:=Ow.drewN r k
theorem BR.drewN{l:List Bool}(r:BR w h B g n l)(k:Nat):BR (w.drewN k) h B g n l:=Ow.drewN r k
end
def bS(x:Int):Int:=wrap64 x
def gm(c:List (List Int))(i j:Int):Int:=ge (c.getD i.toNat []) j
structure fD where
 u:List Int
 v:List Int
 tq:List Int
 owner:List Int
structure eB where
 u:List Int
 v:List Int
 c7:List Int
 src:List Int
 done:List Bool
def oY(c:List (List Int))(u v:List Int)(i j:Int):Int:=bS (bS (gm c i j-ge u i)-ge v j)
def e1(a:eB)(next:Int)(j:Nat):Int:=if a.done.getD j false=false/\(next<0\/ge a.c7 j<ge a.c7 next)then j else next
def p5(a:eB)(n:Nat):Int:=(aw n).foldl (e1 a) (-1)
def kZ(owner:List Int)(delta:Int)(s:Option eB)(j:Nat):Option eB:=
 match s with
 |none=>none
 |some a=>if a.done.getD j false=true then
   (if 0<=ge owner j/\ge owner j<a.u.length then some {a with u:=a.u.set (ge owner j).toNat (bS (ge a.u (ge owner j)+delta)),v:=a.v.set j (bS (ge a.v j-delta))}else none)
  else some {a with c7:=a.c7.set j (bS (ge a.c7 j-delta))}
def iQ(c:List (List Int))(r:Int)(a:eB)(j:Nat):eB:=
 if a.done.getD j false=false/\oY c a.u a.v r j<ge a.c7 j then{a with c7:=a.c7.set j (oY c a.u a.v r j),src:=a.src.set j r}else a
def k0(row:Int)(src:List Int):Nat->Int->List Int->List Int->Option (List Int×List Int)
 |0,_,_,_=>none
 |f+1,column,tq,owner=>
  if 0<=column/\column<src.length/\0<=ge src column/\ge src column<tq.length then
   let r:=ge src column
   if r=row then some (tq.set r.toNat column,owner.set column.toNat r)
   else k0 row src f (ge tq r) (tq.set r.toNat column) (owner.set column.toNat r)
  else none
def nU(c:List (List Int))(n:Nat)(row:Int)(tq owner:List Int):Nat->eB->Option fD
 |0,_=>none
 |f+1,a=>
  let next:=p5 a n
  if next<0 then none else
  let delta:=ge a.c7 next
  match(aw n).foldl (kZ owner delta) (some {a with u:=a.u.set row.toNat (bS (ge a.u row+delta))})with
  |none=>none
  |some a1=>
   let a2:={a1 with done:=a1.done.set next.toNat true}
   let r:=ge owner next
   if r<0 then(k0 row a2.src (n+1) next tq owner).map fun p=>⟨a2.u,a2.v,p.1,p.2⟩
   else if n<=r then none
   else nU c n row tq owner f ((aw n).foldl (iQ c r) a2)
def kj(c:List (List Int))(row:Int)(a:eB)(j:Nat):eB:={a with c7:=a.c7.set j (oY c a.u a.v row j),src:=a.src.set j row}
def cM(n:Nat):List Int:=aA n 0
def lV(c:List (List Int))(n:Nat)(row:Int)(s:fD):Option fD:=
 nU c n row s.tq s.owner (n+1) ((aw n).foldl (kj c row) ⟨s.u,s.v,cM n,cM n,aA n false⟩)
def gD(c:List (List Int))(u v:List Int)(i j:Int):Bool:=decide (bS (ge u i+ge v j)=gm c i j)
structure B8 where
 used:List Bool
 tq:List Int
 owner:List Int
def iR(tight:Int->Int->Bool)(n:Nat)(fixed free:Int)(rec:Int->B8->Option (Bool×B8))(r:Int):List Nat->B8->Option (Bool×B8)
 |[],m=>some (false,m)
 |j::js,m=>
  if m.used.getD j false=true\/tight r j=false then iR tight n fixed free rec r js m
  else if(j:Int)=free then some (true,⟨m.used.set j true,m.tq.set r.toNat j,m.owner.set j r⟩)
  else if fixed<ge m.owner j then
   if n<=ge m.owner j then none else
   match rec (ge m.owner j) {m with used:=m.used.set j true}with
   |none=>none
   |some (true,m')=>some (true,{m' with tq:=m'.tq.set r.toNat j,owner:=m'.owner.set j r})
   |some (false,m')=>iR tight n fixed free rec r js m'
  else iR tight n fixed free rec r js m
def jS(tight:Int->Int->Bool)(n:Nat)(fixed free:Int):Nat->Int->B8->Option (Bool×B8)
 |0,_,_=>none
 |f+1,r,m=>iR tight n fixed free (jS tight n fixed free f) r (aw n) m
def kl(tight:Int->Int->Bool)(n:Nat)(row:Int):List Nat->List Int->List Int->Option (List Int×List Int)
 |[],tq,owner=>some (tq,owner)
 |j::js,tq,owner=>
  if ge owner j<row\/tight row j=false then kl tight n row js tq owner
  else if n<=ge owner j then none else
  match jS tight n row (ge tq row) (n+1) (ge owner j) ⟨(aA n false).set j true,tq,owner⟩with
  |none=>none
  |some (true,m)=>some (m.tq.set row.toNat j,m.owner.set j row)
  |some (false,m)=>kl tight n row js m.tq m.owner
def mQ(c:List (List Int))(n:Nat)(row:Nat)(s:fD):Option fD:=
 if 0<=ge s.tq row/\ge s.tq row<=n then(kl (gD c s.u s.v) n row (aw (ge s.tq row).toNat) s.tq s.owner).map fun p=>{s with tq:=p.1,owner:=p.2}else none
def jI(c:List (List Int)):Bool:=decide (c.length<=40)&&c.all fun row=>decide (row.length=c.length)&&row.all fun x=>decide (0<=x/\x<=1048576)
def nV(c:List (List Int)):Option fD:=
 let n:=c.length;let s0:fD:=⟨cM n,cM n,aA n (-1),aA n (-1)⟩
 ((aw n).foldl (fun s (i:Nat)=>s.bind (mQ c n i)) ((aw n).foldl (fun s (i:Nat)=>s.bind (lV c n i)) (some s0)))
example:(nV [[1,1048576],[2,0]]).map (·.tq)=some [0,1]:=by decide+kernel
example:(nV []).map (·.tq)=some []:=by decide+kernel
theorem wU{a b:Nat}(h:a≠b):((a:Int)!=(b:Int))=true:=by rw[bne_iff_ne];omega
theorem wV{a b:Nat}(h:a=b):((a:Int)!=(b:Int))=false:=by simp[h]
theorem wW{a b:Nat}(h:a=b):((a:Int)==(b:Int))=true:=by simp[h]
theorem wX{a b:Nat}(h:a≠b):((a:Int)==(b:Int))=false:=by rw[beq_eq_false_iff_ne];omega
theorem q0{a b:Int}(h:a≠b):(a !=b)=true:=by simp[h]
theorem Lm{a b:Int}(h:a=b):(a !=b)=false:=by simp[h]
theorem kO{a b:Int}(h:a=b):(a==b)=true:=by simp[h]
theorem kK{a b:Int}(h:a≠b):(a==b)=false:=by simp[h]
def gz(lo hi:Int)(l:List Int):Bool:=l.all fun x=>decide (lo<=x/\x<=hi)
theorem C6(J G:Int)(l:List Int)(k:Nat)(O:k<l.length)(h1:J<=l[k])(h2:l[k]<=G)(h:gz J G (l.take k)=true):gz J G (l.take (k+1))=true:=by unfold gz at*;rw[j5,aE O,BE,h];simp[h1,h2]
theorem C7(J G:Int)(l:List Int)(k:Nat)(O:k<l.length)(h:¬(J<=l[k]/\l[k]<=G)):gz J G l=false:=by unfold gz;rw[qz];exact⟨l[k],by simp,by simpa using h⟩
theorem nG(h:Hp)(w:World)(ab:ao h w)(v:Value)(l:List Int)(G J:Int)(hv:Ints h v l):Calls ai 215 #[v,af ae G,af ae J] w fun e w'=>e= .returned (ay (gz G J l))/\w=w':=by
 obtain⟨a,ak,rfl,hn,hc⟩:=hv.open;replace hc:=aa (hc w ab);clear hv ab;go_in;go_wp2;go_loop[11] (fun i=>∃k:Nat,k<=l.length/\i=af ae k/\Hid (gz G J (l.take k)=true)) (fun i=>l.length-(intOf i).toNat);case atStart=>exact⟨0,aW _,rfl,rfl⟩
 case round=>
  obtain⟨k,aB,rfl,hw⟩:=hrel;by_cases O:k<l.length
  ·obtain⟨b,off,rfl,-,hc⟩:=hc.out (by omega);have ax:=hc k O;have aj:=aa (C6 G J l k O);have Y:=aa (C7 G J l k O);clear hc;generalize l[k]=x at*;by_cases h1:G<=x
   ·by_cases h2:x<=J
    ·go_wp2;go_round;case rel=>exact⟨k+1,by omega,by go_num,aj.out h1 h2 hw⟩
     case measure=>simp[intOf];omega
    ·go_wp2;go_ret;exact⟨by rw[Y.out (by omega)];rfl,rfl⟩
   ·have am:x<G:=by omega
    go_wp2;go_ret;exact⟨by rw[Y.out (by omega)];rfl,rfl⟩
  ·go_wp2;go_ret;have:gz G J l=true:=by have:=hw.out;rwa[iG (by omega)]at this
   exact⟨by rw[this];rfl,rfl⟩
def kP(n:Nat)(ls:List (List Int)):Bool:=ls.all fun r=>decide (r.length=n)&&gz (-1) 1048576 r
def jt(drop add:List Int)(cost:List (List Int)):Bool:=
 decide (drop.length<=400)&&decide (add.length<=400)&&decide (cost.length=drop.length)&&gz 0 1048576 drop&&gz 0 1048576 add&&kP add.length cost
theorem C8(n:Nat)(l:List (List Int))(k:Nat)(G:k<l.length)(h1:l[k].length=n)(h2:gz (-1) 1048576 l[k]=true)(h:kP n (l.take k)=true):kP n (l.take (k+1))=true:=by unfold kP at*;rw[j5,aE G,BE,h];simp[h1,h2]
theorem C9(n:Nat)(l:List (List Int))(k:Nat)(G:k<l.length)(h:¬(l[k].length=n/\gz (-1) 1048576 l[k]=true)):kP n l=false:=by unfold kP;rw[qz];exact⟨l[k],by simp,by simpa using h⟩
theorem Da(h:Hp)(w:World)(ax:ao h w)(aQ va vc:Value)(drop add:List Int)(cost:List (List Int))(hd:Ints h aQ drop)(ha:Ints h va add)(hc:gP h vc cost):Calls ai 188 #[aQ,va,vc] w fun e w'=>e= .returned (ay (jt drop add cost))/\w=w':=by
 have ak:=aa hd;have aL:=aa ha;have G:=aa ax;obtain⟨ad,a4,rfl,ba,-⟩:=hd.open;obtain⟨a2,ca,rfl,a5,-⟩:=ha.open;obtain⟨ac,a3,rfl,a9,am⟩:=hc.open;replace am:=aa (am w ax);clear hd ha hc ax;by_cases h1:400<drop.length;·go_in;go_wp2_with fail;go_ret;exact⟨by simp[jt];omega,rfl⟩
 by_cases h2:400<add.length;·go_in;go_wp2_with fail;go_ret;exact⟨by simp[jt];omega,rfl⟩
 by_cases O:cost.length=drop.length;case neg=>have aX:((cost.length:Int)!=(drop.length:Int))=true:=wU O;go_in;go_wp2_with fail;go_ret;exact⟨by simp[jt,O],rfl⟩
 have aX:((cost.length:Int)!=(drop.length:Int))=false:=wV O;have aT:=aa O;clear O;generalize aO:gz 0 1048576 drop=a1;generalize aN:gz 0 1048576 add=aZ;have J:=aa aO;have ab:=aa aN;clear aO aN;cases a1;·go_in;go_wp2_with fail;refine(nG h w G.out _ drop _ _ ak.out).mono ?_;rintro e w' ⟨rfl,rfl⟩;rw[J.out];go_wp2_with fail;go_ret;exact⟨by simp[jt,J.out],rfl⟩
 cases aZ;·go_in;go_wp2_with fail;refine(nG h w G.out _ drop _ _ ak.out).mono ?_;rintro e w' ⟨rfl,rfl⟩;rw[J.out];go_wp2_with fail;refine(nG h w G.out _ add _ _ aL.out).mono ?_;rintro e w' ⟨rfl,rfl⟩;rw[ab.out];go_wp2_with fail;go_ret;exact⟨by simp[jt,ab.out],rfl⟩
 go_in;go_wp2_with fail;refine(nG h w G.out _ drop _ _ ak.out).mono ?_;rintro e w' ⟨rfl,rfl⟩;rw[J.out];go_wp2_with fail;refine(nG h w G.out _ add _ _ aL.out).mono ?_;rintro e w' ⟨rfl,rfl⟩;rw[ab.out];go_wp2_with fail;go_loop[34] (fun i=>∃k:Nat,k<=cost.length/\i=af ae k/\Hid (kP add.length (cost.take k)=true)) (fun i=>cost.length-(intOf i).toNat);case atStart=>exact⟨0,aW _,rfl,rfl⟩
 case round=>
  obtain⟨k,bd,rfl,hw⟩:=hrel;by_cases aB:k<cost.length
  ·obtain⟨b,off,rfl,-,hc⟩:=am.out (by omega);obtain⟨ar,cr,a8,aG⟩:=hc k aB;have aM:=aa aG;have aS:=aa (C8 add.length cost k aB);have aJ:=aa (C9 add.length cost k aB);have bg:=aG.1.len.1;clear hc aG;by_cases Y:cost[k].length=add.length
   ·have aY:((cost[k].length:Int)!=(add.length:Int))=false:=wV Y;have aV:=aa Y;clear Y;generalize aP:gz (-1) 1048576 cost[k]=wr;have aj:=aa aP;clear aP;cases wr;·go_wp2_with fail;refine(nG h w G.out _ _ _ _ aM.out).mono ?_;rintro e w' ⟨rfl,rfl⟩;rw[aj.out];go_wp2_with fail;go_ret;exact⟨by simp[jt,aJ.out (by rw[aj.out];simp)],rfl⟩
    ·go_wp2_with fail;refine(nG h w G.out _ _ _ _ aM.out).mono ?_;rintro e w' ⟨rfl,rfl⟩;rw[aj.out];go_wp2_with fail;go_round;case rel=>exact⟨k+1,by omega,by go_num,aS.out aV.out aj.out hw⟩
     case measure=>simp[intOf];omega
   ·have aY:((cost[k].length:Int)!=(add.length:Int))=true:=wU Y;go_wp2_with fail;go_ret;exact⟨by simp[jt,aJ.out (by simp[Y])],rfl⟩
  ·go_wp2_with fail;go_ret;have:kP add.length cost=true:=by have:=hw.out;rwa[iG (by omega)]at this
   exact⟨by simp[jt,this,J.out,ab.out,aT.out];omega,rfl⟩
def lR(add:List Int):Nat->Int
 |0=>0
 |j+1=>lR add j+add.getD j 0
def nN(prev:Nat->Int)(d:Int)(add crow:List Int):Nat->Int
 |0=>prev 0+d
 |j+1=>
  if 0<=crow.getD j 0 then min (min (prev (j+1)+d) (nN prev d add crow j+add.getD j 0)) (prev j+crow.getD j 0)
  else min (prev (j+1)+d) (nN prev d add crow j+add.getD j 0)
def pt(drop add:List Int)(cost:List (List Int)):Nat->Nat->Int
 |0=>lR add
 |i+1=>nN (pt drop add cost i) (drop.getD i 0) add (cost.getD i [])
structure lS(drop add:List Int)(cost:List (List Int)):Prop where
 dl:drop.length<=400
 al:add.length<=400
 cl:cost.length=drop.length
 rl:∀i (h:i<cost.length),cost[i].length=add.length
 d:∀x∈drop,0<=x/\x<=1048576
 a:∀x∈add,0<=x/\x<=1048576
 c:∀i (h:i<cost.length),∀x∈cost[i],-1<=x/\x<=1048576
theorem pQ(J G:Int)(l:List Int):gz J G l=true↔∀x∈l,J<=x/\x<=G:=by unfold gz;rw[j4];simp
theorem tL{drop add:List Int}{cost:List (List Int)}:jt drop add cost=true↔lS drop add cost:=by
 unfold jt;simp only[cy,decide_eq_true_eq,pQ];constructor;·rintro⟨⟨⟨⟨⟨h1,h2⟩,O⟩,Y⟩,ab⟩,G⟩;unfold kP at G;rw[j4]at G;simp only[cy,decide_eq_true_eq,pQ]at G;exact⟨h1,h2,O,fun i h=>(G _ (aK h)).1,Y,ab,fun i h=>(G _ (aK h)).2⟩
 ·intro p;refine⟨⟨⟨⟨⟨p.dl,p.al⟩,p.cl⟩,p.d⟩,p.a⟩,?_⟩;unfold kP;rw[j4];intro r hr;obtain⟨i,J,rfl⟩:=List.mem_iff_getElem.1 hr;simp only[cy,decide_eq_true_eq,pQ];exact⟨p.rl i J,p.c i J⟩
theorem vL{α:Type}(l:List α)(i:Nat)(d:α)(h:i<l.length):l.getD i d=l[i]:=by simp[List.getD,h]
theorem tM{l:List Int}(h:∀x∈l,0<=x/\x<=1048576)(i:Nat):0<=l.getD i 0/\l.getD i 0<=1048576:=by
 rcases b7 i l.length with G|G;·rw[vL l i 0 G];exact h _ (aK G)
 ·simp[List.getD,List.getElem?_eq_none G]
theorem mK{drop add:List Int}{cost:List (List Int)}(p:lS drop add cost):∀(i j:Nat),0<=pt drop add cost i j/\pt drop add cost i j<=((i+j:Nat):Int)*1048576
 |0,j=>by
  induction j with
  |zero=>simp[pt,lR]
  |succ j G=>simp only[pt,lR]at G⊢;have:=tM p.a j;omega
 |i+1,j=>by
  have hd:=tM p.d i;induction j with
  |zero=>simp only[pt,nN];have:=mK p i 0;omega
  |succ j G=>
   have ha:=tM p.a j;have h1:=mK p i (j+1);have h2:=mK p i j;simp only[pt,nN]at G⊢;split;·omega
   ·omega
theorem oU(drop add:List Int)(cost:List (List Int))(i j:Nat):pt drop add cost (i+1) (j+1)=if 0<=(cost.getD i []).getD j 0 then min (min (pt drop add cost i (j+1)+drop.getD i 0) (pt drop add cost (i+1) j+add.getD j 0)) (pt drop add cost i j+(cost.getD i []).getD j 0)else min (pt drop add cost i (j+1)+drop.getD i 0) (pt drop add cost (i+1) j+add.getD j 0):=rfl
def iN(drop add:List Int)(cost:List (List Int)):List (List Int):=(aw (drop.length+1)).map fun i=>(aw (add.length+1)).map (pt drop add cost i)
def bO(drop add:List Int)(cost:List (List Int)):Nat->Nat->Nat->List (Int×Int)
 |0,_,_=>[]
 |f+1,i,j=>
  if 0<i\/0<j then
   if 0<i/\0<j/\0<=(cost.getD (i-1) []).getD (j-1) 0/\pt drop add cost i j=pt drop add cost (i-1) (j-1)+(cost.getD (i-1) []).getD (j-1) 0 then
    (((i-1:Nat):Int),((j-1:Nat):Int))::bO drop add cost f (i-1) (j-1)
   else if 0<i/\pt drop add cost i j=pt drop add cost (i-1) j+drop.getD (i-1) 0 then bO drop add cost f (i-1) j
   else bO drop add cost f i (j-1)
  else[]
theorem oV(drop add:List Int)(cost:List (List Int))(i:Nat):pt drop add cost (i+1) 0=pt drop add cost i 0+drop.getD i 0:=rfl
theorem q9(drop add:List Int)(cost:List (List Int)):∀(f g i j:Nat),i+j<=f->i+j<=g->bO drop add cost f i j=bO drop add cost g i j
 |0,0,i,j,_,_=>rfl
 |0,g+1,i,j,h1,_=>by rw[bO,bO,if_neg (by omega)]
 |f+1,0,i,j,_,h2=>by rw[bO,bO,if_neg (by omega)]
 |f+1,g+1,i,j,h1,h2=>by
  rw[bO,bO];by_cases hz:0<i\/0<j
  ·rw[if_pos hz,if_pos hz];split;·rw[q9 drop add cost f g (i-1) (j-1) (by omega) (by omega)]
   ·split;·rw[q9 drop add cost f g (i-1) j (by omega) (by omega)]
    ·rename_i G
     have hj:0<j:=by
      rcases Nat.eq_zero_or_pos j with rfl|hj
      ·exfalso;apply G;obtain⟨k,rfl⟩:∃k,i=k+1:=⟨i-1,by omega⟩
       exact⟨by omega,oV drop add cost k⟩
      ·exact hj
     rw[q9 drop add cost f g i (j-1) (by omega) (by omega)]
  ·rw[if_neg hz,if_neg hz]
theorem pR(drop add:List Int)(cost:List (List Int)):∀(f i j:Nat),(bO drop add cost f i j).length<=f
 |0,_,_=>by simp[bO]
 |f+1,i,j=>by
  rw[bO];split
  ·split;·have:=pR drop add cost f (i-1) (j-1);simp;omega
   ·split;·have:=pR drop add cost f (i-1) j;omega
    ·have:=pR drop add cost f i (j-1);omega
  ·simp
theorem nO(drop add:List Int)(cost:List (List Int)):∀(f i j:Nat) (p:Int×Int),p∈bO drop add cost f i j->0<=p.1/\p.1<i/\0<=p.2/\p.2<j
 |0,_,_,p,h=>by simp[bO]at h
 |f+1,i,j,p,h=>by
  rw[bO]at h;split at h
  ·split at h
   ·rename_i h1;rcases List.mem_cons.1 h with rfl|h;·simp only;omega
    ·have:=nO drop add cost f (i-1) (j-1) p h;omega
   ·split at h;·have:=nO drop add cost f (i-1) j p h;omega
    ·have:=nO drop add cost f i (j-1) p h;omega
  ·simp at h
def e0(drop add:List Int)(cost:List (List Int)):jr:=
 {aR:=(bO drop add cost (drop.length+add.length) drop.length add.length).reverse,cost:=pt drop add cost drop.length add.length,bM:=iN drop add cost}
def hG(f:Nat->Int)(n j:Nat):List Int:=(aw j).map f++aA (n-j) 0
theorem xC(f:Nat->Int)(n j:Nat)(h:j<n):(hG f n j).set j (f j)=hG f n (j+1):=by unfold hG;rw[ma _ _ (by simp),dL,oA,kH,show n-j=(n-(j+1))+1 by omega,pu,nu,List.range_succ,gO,List.append_assoc];rfl
theorem D2(f:Nat->Int)(n j:Nat)(h:j<n):((hG f n j).map (af ae)).set j (af ae (f j))=(hG f n (j+1)).map (af ae):=by rw[<-hL,xC f n j h]
theorem D3(f:Nat->Int)(n j k:Nat)(h:k<j):((hG f n j).map (af ae))[k]? =some (af ae (f k)):=by unfold hG;rw[gO,List.getElem?_append_left (by simp;omega)];simp[h]
theorem D4(f:Nat->Int)(n j:Nat)(h:j<n):((hG f n j).map (af ae))[j]? =some (af ae 0):=by
 unfold hG;have h':0<n-j:=by omega
 rw[gO,List.getElem?_append_right (by simp)];simp[h']
theorem D5(f:Nat->Int)(n j:Nat)(h:j<n)(hz:f j=0):hG f n (j+1)=hG f n j:=by rw[<-xC f n j h,hz];unfold hG;rw[ma _ _ (by simp),dL,oA,kH,show n-j=(n-(j+1))+1 by omega,pu,nu]
theorem D6(f:Nat->Int)(n:Nat):hG f n n=(aw n).map f:=by simp[hG]
theorem j7(z:Value)(n:Nat):(eS #[z] (n*1)).toList=aA n z:=by
 apply lF;intro i;rw[La];by_cases h:i<n;·simp[eS,h,Nat.mod_one]
 ·simp[eS,h]
theorem wY(h:Hp)(w:World)(J:ao h w)(v:Value)(l:List aB)(hv:gy h v l):Calls ai 104 #[v] w fun e w'=>e= .returned (ay (decide (l.length<=262144)&&l.all fun n=>decide (n.kids.length<=400)))/\Below w.heap.size w w':=by
 obtain⟨a,aG,rfl,hn,hc⟩:=hv.open;replace hc:=aa (fun w' J=>hc w' J);clear hv;by_cases aM:262144<l.length;·go_in;go_wp2;go_ret;exact⟨by simp;omega,aD _ _⟩
 have ak:l.length<=262144:=by omega
 go_in;go_wp2;go_loopw[10] (fun i wr=>∃k:Nat,k<=l.length/\i=af ae k/\Hid ((l.take k).all (fun n=>decide (n.kids.length<=400))=true)/\Below w.heap.size w wr) (fun i _=>l.length-(intOf i).toNat);case atStart=>exact⟨0,aW _,rfl,rfl,aD _ _⟩
 case round=>
  obtain⟨k,aJ,rfl,hw,G⟩:=hrel;by_cases Y:k<l.length
  ·obtain⟨b,off,am,ck,rfl,-,ax,c1,c2,c3,c4,O,-⟩:=hc.out wr (J.below G) k Y;have aL:=O.1.len.1;have aj:Hid (l.take (k+1)=l.take k++[l[k]]):=by unfold Hid;rw[j5,aE Y];rfl
   have ab:Hid (l[k]∈l):=by unfold Hid;simp
   clear O;by_cases h1:400<l[k].kids.length
   ·go_wp2;go_ret;refine⟨?_,(G.alloc G.size _)⟩;have:(l.all fun n=>decide (n.kids.length<=400))=false:=by rw[qz];exact⟨_,ab.out,by simpa using h1⟩
    rw[this];simp
   ·go_wp2;go_roundw;case rel=>exact⟨k+1,by omega,by go_num,by unfold Hid;rw[aj.out,BE,hw.out];simp;omega,(G.alloc G.size _)⟩
    case measure=>simp[intOf];omega
  ·go_wp2;go_ret;have:=hw.out;rw[iG (by omega)]at this;exact⟨by rw[this];simp[ak],G⟩
theorem _root_.Go.RowKit.Below.aM{B:Nat}{a w:World}(s:Below B a w){b:Nat}(G:B<=b)(v0 J O Y:Value):Below B a ((((w.setCell ⟨b,0,none⟩ v0).setCell ⟨b,1,none⟩ J).setCell ⟨b,2,none⟩ O).setCell ⟨b,3,none⟩ Y):=
 (((s.setCell (p:=⟨b,0,none⟩) G v0).setCell (p:=⟨b,1,none⟩) G J).setCell (p:=⟨b,2,none⟩) G O).setCell (p:=⟨b,3,none⟩) G Y
theorem Has.four{w:World}{b:Nat}{v0 G J O:Value}(x:Has w b #[v0,G,J,O]):(w.cell? ⟨b,0,none⟩=some v0/\w.cell? ⟨b,1,none⟩=some G/\w.cell? ⟨b,2,none⟩=some J/\w.cell? ⟨b,3,none⟩=some O)/\w.frozen? ⟨b,0,none⟩=false/\w.frozen? ⟨b,1,none⟩=false/\w.frozen? ⟨b,2,none⟩=false/\w.frozen? ⟨b,3,none⟩=false:=
 ⟨⟨x.cl 0,x.cl 1,x.cl 2,x.cl 3⟩,x.fz 0,x.fz 1,x.fz 2,x.fz 3⟩
theorem Has.aM{w:World}{b:Nat}{Y c1 c2 c3:Value}(x:Has w b #[Y,c1,c2,c3])(v0 G J O:Value):Has ((((w.setCell ⟨b,0,none⟩ v0).setCell ⟨b,1,none⟩ G).setCell ⟨b,2,none⟩ J).setCell ⟨b,3,none⟩ O) b #[v0,G,J,O]:=by have:=(((x.fg 0 (by simp) v0).fg 1 (by simp) G).fg 2 (by simp) J).fg 3 (by simp) O;simpa using this
theorem Has.grown{w w1:World}{b:Nat}{c:Array Value}{row:Option Nat}(x:Has w b c)(g:w.grownBy w1 row)(hr:row≠some b):Has w1 b c:=by have e:=g.block b x.lt (fun e=>hr e.symm);exact⟨bK x.lt g.size,fun q=>(dc (a:=⟨b,q,none⟩) e).trans (x.cl q),fun q=>(kG (a:=⟨b,q,none⟩) e).trans (x.fz q)⟩
def nS(e:Ending):Prop:=∃b,e= .returned (ay b)
theorem fW(b:Bool):nS (.returned (ay b)):=⟨b,rfl⟩
end Go.Proofs.YtdplggpbgommnaaGreatDoor
