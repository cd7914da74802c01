/- Maps with numbers for keys. -/
import Derived.Test.YtdplggpbgommnaaGreatDoorG24
import Derived.Test.YtdplggpbgommnaaGreatDoorKi2
import Derived.Test.YtdplggpbgommnaaGreatDoorKi3
import Derived.Test.YtdplggpbgommnaaGreatDoorKi4
open Go renaming run_underlying->gl
open Go.Addr.mk renaming injEq->cx
open Go.Instr renaming findNow->ml,sameNow->qy
open Go.IntKind renaming i64->ae
open Go.Lib renaming hid->aa
open Go.Proofs.Tryz renaming prog->ai
open Go.Value renaming bool->ay,int->af,slice->ag,string->ah
open Go.Value.slice renaming injEq->bU
open List renaming dropWhile_cons->KG,flatMap_cons->fH,getElem?_append_right->ih,getElem?_eq_getElem->aE,getElem_append_left->mf,getElem_cons_zero->dJ,getElem_mem->aK,getElem_set->mg,length_append->cI,length_cons->bF,length_nil->cL,map_set->hL
open List.cons renaming injEq->ii
open Nat renaming add_assoc->bP,add_mul->gN,le_refl->kI,lt_or_ge->b7,zero_le->aW
open Option renaming bind_some->j2,getD_some->BW,map_some->fa
open Option.some renaming injEq->aC
open Prod.mk renaming injEq->jg
set_option maxRecDepth 100000
set_option maxHeartbeats 4000000
namespace Go.Proofs.YtdplggpbgommnaaGreatDoor
open Go.RowKit
theorem E6{J:TypeId}(G:ai.underlying J=some (.int .i64)):jm J (fun n:Int=>af ae n) where
 check b w p:=by unfold Instr.checkKey;simp[gl G]
 bits p:=by simp[Instr.sameBits]
 find w p es l h:=by
  unfold Instr.findKey;simp only[Sem.run_bind,gl G,Result.andThen_ok]
  have:∀(es:List MapEntry) (l:List (Int×Value)) (i:Nat),es.map (fun e=>(e.key,e.val))=l.map (fun q=>(af ae q.1,q.2))->
    ml (.int ae) (af ae p) es i=some ((bm l p).bind fun k=>(l[k]?).map fun q=>(i+k,q.2)):=by
   intro es;induction es with
   |nil=>
    intro l i h;cases l with
    |nil=>rfl
    |cons a l=>simp at h
   |cons e es ab=>
    intro l i h;cases l with
    |nil=>simp at h
    |cons a l=>
     simp only[List.map_cons,ii,jg]at h;obtain⟨⟨h1,h2⟩,O⟩:=h;unfold ml;rw[h1];unfold bm;rw[List.findIdx?_cons];by_cases hp:a.1=p;·simp[qy,hp,h2]
     ·have Y:(p==a.1)=false:=by rw[beq_eq_false_iff_ne];exact fun e=>hp e.symm
      simp only[qy,Y,hp,decide_false,Bool.false_eq_true,if_false,if_true];rw[ab l (i+1) O];unfold bm;cases l.findIdx? (fun q=>decide (q.1=p))with
      |none=>rfl
      |some k=>simp[bP,Nat.add_comm 1 k]
  rw[this es l 0 h];simp
theorem mP:jm 3 (fun n:Int=>af ae n):=E6 Tryz.underlying3
def e6{α:Type}(enc:α->List Value)(c:Nat)(h:Hp)(v:Value)(x:List α):Prop:=Sl h v x.length c (x.flatMap enc)/\∃a cap,v=ag a x.length cap/\x.length<=cap
theorem e6.mono{α:Type}{enc:α->List Value}{c:Nat}{h h':Hp}(G:h.le h'){v:Value}{x:List α}(s:e6 enc c h v x):e6 enc c h' v x:=⟨s.1.mono G,s.2⟩
theorem Ow.uY{α:Type}{enc:α->List Value}{c:Nat}{w:World}{h:Hp}{B:Nat}{e:TypeId}{v:Value}{x:List α}(o:Ow w h B e c v x.length (x.flatMap enc))(hx:x.length<=140737488355328):e6 enc c (h.fr B w) v x:=by
 refine⟨o.sl hx,?_⟩;rcases o.row with⟨h1,⟨rfl,G⟩|⟨g',O,Y,rfl,ab,am,J,aj,ak,ao⟩⟩;·exact⟨_,_,by rw[G],by omega⟩
 ·exact⟨_,_,rfl,J⟩
theorem e6.nil{α:Type}{enc:α->List Value}{c:Nat}(h:Hp)(a:Option Addr)(G:Nat):e6 enc c h (ag a 0 G) ([]:List α):=⟨Sl.nil _ _ _ _,_,_,rfl,aW _⟩
structure hZ{K α:Type}[DecidableEq K](enc:K->Value)(encA:α->List Value)(c:Nat)(h:Hp)(w:World)(r:Nat)(rest:List (K×List α))(l:List (K×Value)):Prop where
 map:aS enc w r l
 keys:l.map (·.1)=rest.map (·.1)
 sl:∀i (hi:i<l.length) (hr:i<rest.length),e6 encA c h (l[i]).2 (rest[i]).2
section
variable {K α:Type} [DecidableEq K] {enc:K->Value} {encA:α->List Value} {c:Nat} {e:TypeId} {w w1:World} {h:Hp} {r B:Nat} {rest:List (K×List α)} {l:List (K×Value)}
theorem cY.G0(g:cY enc e c encA w h B r rest l){m:Nat}(J:∀q∈rest,q.2.length<=m)(hm:m<=140737488355328):hZ enc encA c (h.fr B w) w r rest l:=
 ⟨g.map,g.keys,fun i G hr=>(g.own i G hr).uY (Nat.le_trans (J _ (aK hr)) hm)⟩
theorem hZ.len(g:hZ enc encA c h w r rest l):l.length=rest.length:=by have:=congrArg List.length g.keys;simpa using this
theorem hZ.row(g:hZ enc encA c h w r rest l)(p:K):e6 encA c h ((aT l p).getD (ag none 0 0)) ((aT rest p).getD []):=by
 unfold aT;rw[oN g.keys p];cases hp:bm rest p with
 |none=>exact e6.nil _ _ _
 |some k=>have G:=fv hp;have J:=g.len;simp only[j2,aE G,aE (show k<l.length by omega),fa,BW];exact g.sl k (by omega) G
theorem hZ.keep(g:hZ enc encA c h w r rest l)(hm:w1.heap[r]? =w.heap[r]?):hZ enc encA c h w1 r rest l:=⟨g.map.keep hm,g.keys,g.sl⟩
theorem hZ.put(g:hZ enc encA c h w r rest l)(p:K)(x:List α)(v:Value)(Y:aS enc w1 r (aY l p v))(ax:e6 encA c h v x):hZ enc encA c h w1 r (aY rest p x) (aY l p v):=by
 have aB:=g.len;have am:=oN g.keys p;cases hp:bm l p with
 |none=>
  have aj:bm rest p=none:=by rw[<-am];exact hp
  have G:aY l p v=l++[(p,v)]:=by unfold aY;rw[hp]
  have ab:aY rest p x=rest++[(p,x)]:=by unfold aY;rw[aj]
  rw[G]at Y;rw[G,ab];refine⟨Y,by simp[g.keys],fun i O ao=> ?_⟩;simp only[cI,bF,cL]at O;by_cases ak:i<l.length;·rw[mf ak,mf (by omega)];exact g.sl i ak (by omega)
  ·obtain rfl:i=l.length:=by omega
   have:(rest++[(p,x)])[l.length]'ao=(p,x):=by rw[List.getElem_append_right (by omega)];simp[aB]
   rw[this];simpa using ax
 |some k=>
  have aj:bm rest p=some k:=by rw[<-am];exact hp
  have G:aY l p v=l.set k (p,v):=by unfold aY;rw[hp]
  have ab:aY rest p x=rest.set k (p,x):=by unfold aY;rw[aj]
  rw[G]at Y;rw[G,ab];refine⟨Y,by rw[hL,hL,g.keys],fun i O ao=> ?_⟩;simp only[List.length_set]at O;rw[mg,mg];by_cases J:k=i;·rw[if_pos J,if_pos J];exact ax
  ·rw[if_neg J,if_neg J];exact g.sl i O (by omega)
theorem e6.cut{a:Option Addr}{n ab:Nat}{y:α}{x:List α}(hc:∀z:α,(encA z).length=c)(s:e6 encA c h (ag a n ab) (y::x)){w:World}(aP:ao h w)(_h0:0<c):n=x.length+1/\x.length+1<=ab/\∃b off,a=some ⟨b,off,none⟩/\b<w.heap.size/\h b≠none/\(∀k v,(encA y)[k]? =some v->w.cell? ⟨b,off+k,none⟩=some v)/\∀a',(x=[]\/a'=some ⟨b,off+c,none⟩)->e6 encA c h (ag a' x.length (ab-1)) x:=by
 obtain⟨ak,aT,c1,am,aB⟩:=s;simp only[bU,bF]at am;obtain⟨rfl,rfl,rfl⟩:=am;simp only[bF]at ak aB;have aJ:=ak;obtain⟨b,off,rfl,aM,aO⟩:=ak.cells aP (by omega)
 have aN:h b≠none:=by
  obtain⟨aL,c2,J,h1,h2,O⟩:=aJ;rcases O with O|⟨b',aS,cs,G,aj,ax⟩;·omega
  ·simp only[bU]at J;rw[<-J.1]at G;simp only[aC,cx,and_true]at G;rw[G.1,aj];simp
 refine⟨rfl,aB,b,off,rfl,aM,aN,fun k v Y=>aO k v ?_,fun a' ha=> ?_⟩
 ·have aQ:k<(encA y).length:=by
   rcases b7 k (encA y).length with q|q;·exact q
   ·rw[List.getElem?_eq_none q]at Y;cases Y
  rw[fH,List.getElem?_append_left aQ];exact Y
 ·rcases ha with rfl|rfl;·exact e6.nil _ _ _
  ·refine⟨?_,_,_,rfl,by omega⟩;obtain⟨aL,c2,J,h1,h2,O⟩:=aJ;rcases O with O|⟨b',aS,cs,G,aj,ax⟩;·omega
   ·simp only[bU]at J;rw[<-J.1]at G;simp only[aC,cx,and_true]at G;obtain⟨rfl,rfl⟩:=G;have aG:=hc y;refine⟨_,_,rfl,by omega,?_,.inr ⟨b,off+c,cs,rfl,aj,fun k Y=> ?_⟩⟩;·have:=h2;rw[fH,cI,aG,gN]at this;omega
    ·have:=ax (k+c) (by rw[gN];omega);rw[show off+c+k=off+(k+c) by omega,this,fH,ih (by omega),aG,Nat.add_sub_cancel]
end
structure pa(ts:List Tree):Prop where
 short:∀d∈aj 0 ts,d.t.short
 sum:iX (aj 0 ts)<=200000
 num:∀d∈aj 0 ts,d.number+d.t.size<=200000
theorem zO:∀(l:List bq) (j:Nat) (hj:j<l.length),(l.flatMap cX)[j*4]? =some (af ae l[j].module)/\(l.flatMap cX)[j*4+1]? =some (af ae l[j].number)/\(l.flatMap cX)[j*4+2]? =some (af ae l[j].size)/\(l.flatMap cX)[j*4+3]? =some (af ae l[j].a6)
 |[],j,hj=>by simp at hj
 |x::l,0,_=>by simp[cX]
 |x::l,j+1,hj=>by
  have h:=zO l j (by simpa using hj);have e:∀k,((x::l).flatMap cX)[(j+1)*4+k]? =(l.flatMap cX)[j*4+k]? :=fun k=>by rw[fH,ih (by simp[cX];omega)];congr 1;simp only[cX,bF,cL];omega
  refine⟨?_,?_,?_,?_⟩;·rw[show(j+1)*4=(j+1)*4+0 by omega,e 0];exact h.1
  ·rw[e 1];exact h.2.1
  ·rw[e 2];exact h.2.2.1
  ·rw[e 3];exact h.2.2.2
theorem e6.sub{h:Hp}{w:World}{a:Option Addr}{n J:Nat}{L:List bq}(s:e6 cX 4 h (ag a n J) L)(Y:ao h w)(j:Nat)(hj:j<L.length):∃b off,a=some ⟨b,off,none⟩/\b<w.heap.size/\w.cell? ⟨b,off+j*4,none⟩=some (af ae L[j].module)/\w.cell? ⟨b,off+j*4+1,none⟩=some (af ae L[j].number)/\w.cell? ⟨b,off+j*4+2,none⟩=some (af ae L[j].size)/\w.cell? ⟨b,off+j*4+3,none⟩=some (af ae L[j].a6):=by
 obtain⟨ab,aj,c1,G,ak⟩:=s;simp only[bU]at G;obtain⟨rfl,rfl,rfl⟩:=G;obtain⟨b,off,rfl,O,hc⟩:=ab.cells Y (by omega);have h:=zO L j hj;refine⟨b,off,rfl,O,hc _ _ h.1,?_,?_,?_⟩;·rw[bP];exact hc _ _ h.2.1
 ·rw[bP];exact hc _ _ h.2.2.1
 ·rw[bP];exact hc _ _ h.2.2.2
theorem Hp.G1{h h':Hp}(J:h.le h')(B:Nat)(w:World):(h.fr B w).le (h'.fr B w):=fun b c hc=>by
 unfold Hp.fr at hc⊢;split at hc;·rename_i G;rw[if_pos G];exact J b c hc
 ·rename_i G;rw[if_neg G];exact hc
theorem hZ.mono{K α:Type}[DecidableEq K]{enc:K->Value}{encA:α->List Value}{c:Nat}{h h':Hp}{w:World}{r:Nat}{rest:List (K×List α)}{l:List (K×Value)}(g:hZ enc encA c h w r rest l)(J:h.le h'):hZ enc encA c h' w r rest l:=
 ⟨g.map,g.keys,fun i G hr=>(g.sl i G hr).mono J⟩
def kx(L:List bq)(g:List (Int×List bq)):Prop:=∀k,∀o∈(aT g k).getD [],o∈L/\(o.a6:Int)=k
theorem kx.set{L:List bq}{g:List (Int×List bq)}(h:kx L g)(c:Int)(x:List bq)(hx:∀o∈x,o∈L/\(o.a6:Int)=c):kx L (aY g c x):=fun k o G=>by
 rw[o5]at G;split at G;·rename_i e;subst e;exact hx o G
 ·exact h k o G
theorem G2{L:List bq}{g:List (Int×List bq)}(h:kx L g){t:bq}(J:t∈L):kx L (gH g t):=by
 unfold gH;split
 ·refine h.set _ _ fun o G=> ?_;rcases List.mem_append.1 G with G|G;·exact h _ o G
  ·obtain rfl:=List.mem_singleton.1 G;exact⟨J,rfl⟩
 ·exact h
theorem G3(L:List bq):kx L (L.foldl gH []):=
 hX (P:=fun g=>kx L g) L [] (fun k o G=>by cases G) fun g t J h=>G2 h J
theorem G4{g:List (Int×List bq)}{t:bq}{m:Nat}(h:∀q∈g,q.2.length<=m):∀q∈gH g t,q.2.length<=m+1:=by
 unfold gH;split
 ·intro q G;rcases oM G with G|rfl;·have:=h q G;omega
  ·have:((aT g (t.a6:Int)).getD []).length<=m:=by
    unfold aT;cases hp:bm g (t.a6:Int)with
    |none=>simp
    |some k=>simp only[j2,aE (fv hp),fa,BW];exact h _ (aK _)
   simp;omega
 ·exact fun q G=>by have:=h q G;omega
theorem zP(p:bq->Bool)(L:List bq)(k:Nat)(G:k<=L.length)(h:∀i (O:i<k),p (L[i]'(by omega))=true)(he:k=L.length\/∃G:k<L.length,p L[k]=false):L.dropWhile p=L.drop k:=by
 induction L generalizing k with
 |nil=>simp at G;subst G;rfl
 |cons a L Y=>
  cases k with
  |zero=>
   rcases he with he|⟨_,he⟩;·simp at he
   ·rw[dJ]at he;rw[KG,he];rfl
  |succ k=>
   have J:=h 0 (by omega);rw[dJ]at J;rw[KG,J];simp only[if_true,List.drop_succ_cons];refine Y k (by simpa using G) (fun i O=> ?_) ?_;·have:=h (i+1) (by omega);simpa using this
   ·rcases he with he|⟨h1,he⟩;·exact .inl (by simpa using he)
    ·exact .inr ⟨by simpa using h1,by simpa using he⟩
section
variable {h:Hp} {w:World} {B xb so sn:Nat} {budget:Int} {V:eL->Value} {s:bp} {ot nt:List Tree}
theorem G5(q:bH h w B xb so sn budget V s)(sh:cw s ot nt)(x:bq)(hm:x.module<nt.length)(hp:0<x.size)(hn:x.number+x.size<=(nt.getD x.module default).size)(J:∀t∈nt,t.size<=1000000):Calls ai 66 #[.pointer (some ⟨sn,0,none⟩),o1 x] w fun e w'=>e= .returned (ay (fX s.nt x))/\Below w.heap.size w w':=by
 obtain⟨tv,ab,O,kv,G,on⟩:=q.new;have Y:=sh.gY x.module hm;have hz:(nt.getD x.module default).size<=1000000:=by rw[getD_at hm];exact J _ (aK hm)
 have o:=q.rows.own (.nt x.module);simp only[cf,ch,dD,dE]at o;exact yA q.I G s.nt (fun i=>V (.nt i)) on x o (by rw[sh.nl];exact hm) (by omega) hp (by omega)
theorem G6(q:bH h w B xb so sn budget V s)(sh:cw s ot nt)(x:bq)(hm:x.module<ot.length)(hp:0<x.size)(hn:x.number+x.size<=(ot.getD x.module default).size)(J:∀t∈ot,t.size<=1000000):Calls ai 66 #[.pointer (some ⟨so,0,none⟩),o1 x] w fun e w'=>e= .returned (ay (fX s.ot x))/\Below w.heap.size w w':=by
 obtain⟨tv,ab,O,kv,G,on⟩:=q.aI;have Y:=sh.mR x.module hm;have hz:(ot.getD x.module default).size<=1000000:=by rw[getD_at hm];exact J _ (aK hm)
 have o:=q.rows.own (.ot x.module);simp only[cf,ch,dD,dE]at o;exact yA q.I G s.ot (fun i=>V (.ot i)) on x o (by rw[sh.ol];exact hm) (by omega) hp (by omega)
end
theorem A9:∀m,eP m
 |0=>fun t G=>by have:=t.size_eq;omega
 |m+1=>fun t G rt h B w v n xs p hn tv J=>by
  have E:=A9 m;rcases Dm t.kind with k|k|k|k|k|k|k|k|k|k|k|k|k|k|k|k|k|k|k|k|k|k|k;·exact IU m E t G rt k h B w v n xs p hn tv J
  ·exact IV m E t G rt k h B w v n xs p hn tv J
  ·exact IW m E t G rt k h B w v n xs p hn tv J
  ·exact IX m E t G rt k h B w v n xs p hn tv J
  ·exact IY m E t G rt k h B w v n xs p hn tv J
  ·exact IZ m E t G rt k h B w v n xs p hn tv J
  ·exact I0 m E t G rt k h B w v n xs p hn tv J
  ·exact I1 m E t G rt k h B w v n xs p hn tv J
  ·exact Iv m E t G rt k h B w v n xs p hn tv J
  ·exact Iw m E t G rt k h B w v n xs p hn tv J
  ·exact Ix m E t G rt k h B w v n xs p hn tv J
  ·exact Iy m E t G rt k h B w v n xs p hn tv J
  ·exact Iz m E t G rt k h B w v n xs p hn tv J
  ·exact IA m E t G rt k h B w v n xs p hn tv J
  ·exact IB m E t G rt k h B w v n xs p hn tv J
  ·exact I2 m E t G rt k h B w v n xs p hn tv J
  ·exact I3 m E t G rt k h B w v n xs p hn tv J
  ·exact I4 m E t G rt k h B w v n xs p hn tv J
  ·exact I5 m E t G rt k h B w v n xs p hn tv J
  ·exact I6 m E t G rt k h B w v n xs p hn tv J
  ·exact I7 m E t G rt k h B w v n xs p hn tv J
  ·exact I8 m E t G rt k h B w v n xs p hn tv J
  ·have:=rt.1.leads;unfold b9 at this;rw[if_neg (by omega),if_neg (by omega),if_neg (by omega),if_neg (by omega),if_neg (by omega),if_neg (by omega),if_neg (by omega),if_neg (by omega),if_neg (by omega),if_neg (by omega),if_neg (by omega)]at this;omega
def I9(h:Hp)(w:World)(e:Ending)(w':World):Prop:=∃v n xs,e= .returned v/\Ow w' h w.heap.size 199 2 v n xs/\PcV xs/\ao h w'/\Below w.heap.size w w'/\n<=4000000
theorem Ja(t:Tree)(hz:t.size<=100000)(rt:RT t)(h:Hp)(w:World)(O:ao h w)(v:Value)(J:aP h v t):Calls ai 123 #[v] w (I9 h w):=by have ab:=aa O;have ak:=aa J;have aj:=aa rt;obtain⟨al,ax,am,ck,ys,rfl,-,aO,aN,aB,aG,he⟩:=J.open;clear O J rt aB aG he;have B0:Hid (Below w.heap.size w (w.alloc (.cells #[af ae t.kind,ah t.text,ag al t.leads.length ax,ag am t.kids.length ck] 26))):=(Below.refl _ _).alloc (kI _) _;go_in;go_wp2_with fail;refine(A9 t.size t (kI _) aj.out h w.heap.size _ _ 0 [] (bN.refl (ab.out.alloc _) (Ow.nil _ _ _ _ _) PcV.nil (by simp)) (by omega) _ ak.out).mono ?_;rintro e w2 ⟨aS,aJ,aL,rfl,Y,aQ⟩;have G:=aa Y;clear Y;go_wp2_with fail;go_ret;exact⟨_,aJ,aL,rfl,G.out.own,G.out.ok,G.out.I,B0.out.trans ⟨G.out.gr.os,G.out.gr.tape,G.out.gr.output,G.out.gr.size,fun k aM=>G.out.gr.block k (by simp;omega) (fun e=>by cases e)⟩,by omega⟩
def EG(s:ByteArray)(i:Nat)(e:Ending):Prop:=∃(m:Nat) (b:Int),e= .returned (.tuple #[af ae m,af ae b])/\i+m<=s.size
theorem x2(w:World)(s:ByteArray)(hs:s.size<=140737488355328)(z:Int)(i:Nat)(hz:z=(i:Int))(ax:i<=s.size):Calls ai 197 #[ah s,af ae z] w fun e w'=>EG s i e/\w=w':=by
 subst hz;go_in;go_wp2_with fail;go_loop[6] (fun q=>∃n:Nat,i<=n/\n<=s.size/\q=af ae n) (fun q=>s.size-(intOf q).toNat);case atStart=>exact⟨i,kI _,ax,rfl⟩
 case round=>
  obtain⟨n,aM,hn,rfl⟩:=hrel;have w2:ae.wrap ((n:Int)-(i:Int))=((n-i:Nat):Int):=by rw[bA (by omega)];omega
  by_cases Y:n<s.size
  ·have aP:(0:Int)<=(n:Int):=by omega
   have aQ:(n:Int)<(s.size:Int):=by omega
   have aL:((s[n]'Y).toNat:Int)=bt s n:=ei Y;go_wp2_with fail;refine(tE _ _).mono ?_;rintro e w1 ⟨rfl,rfl⟩;obtain⟨aG,ab⟩:∃b,Kh (bt s n)=b:=⟨_,rfl⟩
   rw[ab];clear ab;cases aG
   ·by_cases G:bt s n=35
    ·have ao:(bt s n==35)=true:=by simpa using G
     have aj:Hid (bt s n≠10):=by unfold Hid;omega
     clear G;go_wp2_with fail;go_loop[6] (fun q=>∃k:Nat,n<=k/\k<=s.size/\q=af ae k) (fun q=>s.size-(intOf q).toNat);case atStart=>exact⟨n,kI _,hn,rfl⟩
     case round=>
      obtain⟨k,aO,aB,rfl⟩:=hrel;have w3:ae.wrap ((k:Int)-(i:Int))=((k-i:Nat):Int):=by rw[bA (by omega)];omega
      by_cases O:k<s.size
      ·have aS:(0:Int)<=(k:Int):=by omega
       have aT:(k:Int)<(s.size:Int):=by omega
       have aJ:((s[k]'O).toNat:Int)=bt s k:=ei O;by_cases lT:bt s k=10
       ·have am:(bt s k !=10)=false:=by simpa using lT
        have aN:n<k:=by
         rcases b7 n k with h|h;·exact h
         ·have:n=k:=by omega
          subst this;exact absurd lT aj.out
        go_wp2_with fail;go_round;case rel=>exact⟨k,by omega,aB,rfl⟩
        case measure=>simp[intOf];omega
       ·have am:(bt s k !=10)=true:=by simpa using lT
        go_wp2_with fail;refine(tH _ _).mono ?_;rintro e w1 ⟨rfl,rfl⟩;obtain⟨ak,J⟩:∃b,(Kh (bt s k)||mH (bt s k))=b:=⟨_,rfl⟩
        rw[J];clear J;cases ak;·go_wp2_with fail;go_ret2;exact⟨⟨k-i,k,rfl,by omega⟩,rfl⟩
        ·go_wp2_with fail;go_round;case rel=>exact⟨k+1,by omega,by omega,by go_num⟩
         case measure=>simp[intOf];omega
      ·obtain rfl:k=s.size:=by omega
       go_wp2_with fail;go_round;case rel=>exact⟨s.size,by omega,by omega,rfl⟩
       case measure=>simp[intOf];omega
    ·have ao:(bt s n==35)=false:=by simpa using G
     go_wp2_with fail;go_ret2;exact⟨⟨n-i,-1,rfl,by omega⟩,rfl⟩
   ·go_wp2_with fail;go_round;case rel=>exact⟨n+1,by omega,by omega,by go_num⟩
    case measure=>simp[intOf];omega
  ·obtain rfl:n=s.size:=by omega
   go_wp2_with fail;go_ret2;exact⟨⟨s.size-i,-1,rfl,by omega⟩,rfl⟩
theorem ue(w:World)(s:ByteArray)(hs:s.size<=140737488355328)(J:Bool):Calls ai 172 #[ah s,ay J] w fun e w'=>nS e/\w=w':=by
 go_in;go_wp2_with fail;refine(x2 _ s hs 0 0 rfl (aW _)).mono ?_;rintro e w1 ⟨⟨m,b,rfl,hm⟩,rfl⟩;by_cases aj:0<=b;·go_wp2_with fail;go_ret;exact⟨fW _,rfl⟩
 ·have ao:decide (0<=b)=false:=by simpa using aj
  by_cases ax:m<s.size
  ·have ak:(m:Int)<(s.size:Int):=by omega
   go_wp2_with fail;go_ret;exact⟨fW _,rfl⟩
  ·have ak:decide ((m:Int)<(s.size:Int))=false:=by simp;omega
   have aB:decide (m<s.size)=false:=by simp;omega
   cases J
   ·go_wp2_with fail;go_loop[7,8] (fun c q=>∃(n:Nat) (cb:Bool),n<=s.size/\q=af ae n/\c=ay cb) (fun _ q=>s.size-(intOf q).toNat);case atStart=>exact⟨0,false,aW _,rfl,rfl⟩
    case round=>
     obtain⟨n,cb,hn,rfl,rfl⟩:=hrel;by_cases Y:n<s.size
     ·have aG:(0:Int)<=(n:Int):=by omega
      have aJ:(n:Int)<(s.size:Int):=by omega
      have am:((s[n]'Y).toNat:Int)=bt s n:=ei Y;by_cases G:bt s n=35
      ·have ab:(bt s n==35)=true:=by simpa using G
       have O:(bt s n==10)=false:=by simp;omega
       clear G;go_wp2_with fail;go_round;case rel=>exact⟨n+1,true,by omega,by go_num,rfl⟩
       case measure=>simp[intOf];omega
      ·have ab:(bt s n==35)=false:=by simpa using G
       by_cases lT:bt s n=10
       ·have O:(bt s n==10)=true:=by simpa using lT
        clear lT G;go_wp2_with fail;go_round;case rel=>exact⟨n+1,false,by omega,by go_num,rfl⟩
        case measure=>simp[intOf];omega
       ·have O:(bt s n==10)=false:=by simpa using lT
        clear lT G;go_wp2_with fail;go_round;case rel=>exact⟨n+1,cb,by omega,by go_num,rfl⟩
        case measure=>simp[intOf];omega
     ·obtain rfl:n=s.size:=by omega
      go_wp2_with fail;go_ret;exact⟨fW _,rfl⟩
   ·go_wp2_with fail;go_ret;exact⟨fW _,rfl⟩
end Go.Proofs.YtdplggpbgommnaaGreatDoor
