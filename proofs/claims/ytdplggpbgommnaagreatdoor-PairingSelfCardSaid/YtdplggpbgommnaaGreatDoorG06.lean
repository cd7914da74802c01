/- The cells of a certificate. -/
import Derived.Test.YtdplggpbgommnaaGreatDoorG04
import Derived.Test.YtdplggpbgommnaaGreatDoorKc
open Go renaming bodyPost_ret→aF,results→aH
open Go.Addr.mk renaming injEq→cx
open Go.ByteArray renaming toList_eq→eT
open Go.IntKind renaming i64→ae
open Go.Lib renaming hid→aa
open Go.Proofs.Tryz renaming prog→ai,results195→hN
open Go.RowKit.Below renaming refl→aD
open Go.Value renaming agg→aq,bool→ay,int→af,ownBlock→bW,slice→ag,string→ah
open Go.Value.slice renaming injEq→bU
open List renaming getElem?_eq_getElem→aE,getElem_append_left→mf,getElem_map→eU,getElem_mem→aK,getElem_set→mg,length_set→oj,map_set→hL,pairwise_iff_getElem→mw
open List.Pairwise renaming nil→B1
open Nat renaming add_assoc→bP,le_refl→an
open Option renaming bind_some→j2,getD_some→fs,map_some→fa
open Option.some renaming injEq→aC,inj→aU
open Prod.mk renaming injEq→jg
set_option maxRecDepth 100000
set_option maxHeartbeats 4000000
namespace Go.Proofs.YtdplggpbgommnaaGreatDoor
open Go.RowKit
theorem mF.gA{h:Hp}{v:Value}{l:List dY}(aM:mF h v l)(ax:0<l.length):∃b A M,v=ag (some ⟨b,A,none⟩) l.length M∧l.length≤140737488355328∧
  ∀w,ao h w→b<w.heap.size∧∀i (ad:i<l.length),∃ap cp ar cr,w.cell? ⟨b,A+i*6,none⟩=some (af ae l[i].a)∧w.cell? ⟨b,A+i*6+1,none⟩=some (af ae l[i].b)∧
   w.cell? ⟨b,A+i*6+2,none⟩=some (af ae l[i].cost)∧w.cell? ⟨b,A+i*6+3,none⟩=some (ag ap l[i].kids.aR.length cp)∧w.cell? ⟨b,A+i*6+4,none⟩=some (af ae l[i].kids.cost)∧
   w.cell? ⟨b,A+i*6+5,none⟩=some (ag ar l[i].kids.bM.length cr)∧
   C0 h (aq #[ag ap l[i].kids.aR.length cp,af ae l[i].kids.cost,ag ar l[i].kids.bM.length cr]) l[i].kids∧aG l[i].a∧aG l[i].b∧aG l[i].cost∧aG l[i].kids.cost:=by
 obtain⟨cs,s,e⟩:=aM;obtain⟨a,M,rfl,aJ⟩:=s.shape;have aL:=s;obtain⟨a',aQ,ab,h1,h2,O⟩:=aL;simp only[bU,true_and]at ab;obtain⟨rfl,rfl⟩:=ab;rcases O with O|⟨b,A,c,rfl,aB,aT⟩;·omega
 refine⟨b,A,M,rfl,aJ,fun w ac=>⟨cD (ac b c aB),fun i ad=> ?_⟩⟩;obtain⟨b',aV,Y,aS,G⟩:=s.cells ac ax;simp only[aC,cx,and_true]at Y;obtain⟨rfl,rfl⟩:=Y;obtain⟨c5,g1,E⟩:=e.at 6 kN.len i ad;obtain⟨r,rfl,aN,aO,aP,ap,cp,ar,cr,rfl,aj,ak,am⟩:=g1;refine⟨ap,cp,ar,cr,?_,?_,?_,?_,?_,?_,⟨_,rfl,ap,cp,ar,cr,rfl,aj,ak,am⟩,aN,aO,aP,aj⟩;·exact G _ _ (E 0 (by omega))
 ·rw[bP];exact G _ _ (E 1 (by omega))
 ·rw[bP];exact G _ _ (E 2 (by omega))
 ·rw[bP];exact G _ _ (E 3 (by omega))
 ·rw[bP];exact G _ _ (E 4 (by omega))
 ·rw[bP];exact G _ _ (E 5 (by omega))
def cj(a b:Value):Prop:=∀g,a.ownBlock=some g→b.ownBlock≠some g
theorem ET{H:List Value}{N k:Nat}{v:Value}(M:H.Pairwise cj)(Y:∀u∈H,∀g,u.ownBlock=some g→g<N)(ad:k<H.length)(ab:v.ownBlock=H[k].ownBlock∨∃g,v.ownBlock=some g∧N≤g):(H.set k v).Pairwise cj:=by
 rw[mw]at M⊢;intro i j E hj O;simp only[oj]at E hj;rw[mg,mg];by_cases h1:k=i
 ·subst h1;rw[if_pos rfl,if_neg (by omega)];rcases ab with e|⟨g,e,ac⟩;·intro q A;rw[e]at A;exact M k j E hj O q A
  ·intro q A G;rw[e]at A;have:=Y H[j] (aK hj) q G;have:=aU A;omega
 ·by_cases h2:k=j
  ·subst h2;rw[if_neg h1,if_pos rfl];rcases ab with e|⟨g,e,ac⟩;·intro q A;rw[e];exact M i k E hj O q A
   ·intro q A G;rw[e]at G;have:=Y H[i] (aK E) q A;have:=aU G;omega
  ·rw[if_neg h1,if_neg h2];exact M i j E hj O
theorem EU{H:List Value}(E:H.Pairwise cj){i j:Nat}(A:i<H.length)(hj:j<H.length)(G:i≠j):cj H[i] H[j]:=by
 rcases Nat.lt_or_gt_of_ne G with h|h;·exact mw.1 E i j A hj h
 ·intro g h1 h2;exact mw.1 E j i hj A h g h2 h1
theorem uh{K α:Type}[DecidableEq K](l:List (K×α))(p:K):bm l p=(l.map (·.1)).findIdx? fun q=>decide (q=p):=by unfold bm;rw[List.findIdx?_map];rfl
theorem oN{K α A:Type}[DecidableEq K]{l:List (K×α)}{m:List (K×A)}(h:l.map (·.1)=m.map (·.1))(p:K):bm l p=bm m p:=by rw[uh,uh,h]
structure cY{K α:Type}[DecidableEq K](enc:K→Value)(e:TypeId)(c:Nat)(encA:α→List Value)(w:World)(h:Hp)(B r:Nat)(rest:List (K×List α))(l:List (K×Value)):Prop where
 map:aS enc w r l
 keys:l.map (·.1)=rest.map (·.1)
 own:∀i (hi:i<l.length) (hr:i<rest.length),Ow w h B e c (l[i]).2 (rest[i]).2.length ((rest[i]).2.flatMap encA)
 apart:(l.map (·.2)).Pairwise cj
section
variable {K α:Type} [DecidableEq K] {enc:K→Value} {e:TypeId} {c:Nat} {encA:α→List Value} {w w1 w2 w3:World} {h:Hp} {B r:Nat} {rest:List (K×List α)} {l:List (K×Value)}
theorem cY.len(g:cY enc e c encA w h B r rest l):l.length=rest.length:=by have:=congrArg List.length g.keys;simpa using this
theorem cY.start(w:World)(h:Hp)(B:Nat):cY enc e c encA (w.alloc (.map #[] 0)) h B w.heap.size [] []:=
 ⟨aS.new _ _,rfl,fun i A=>by simp at A,B1⟩
theorem cY.U(g:cY enc e c encA w h B r rest l)(M:w1.heap[r]? =w.heap[r]?)(G:∀i (A:i<l.length),∀b,(l[i]).2.ownBlock=some b→w1.heap[b]? =w.heap[b]?):cY enc e c encA w1 h B r rest l:=
 ⟨g.map.U M,g.keys,fun i A O=>(g.own i A O).U (fun b E=>G i A b E) (fun _ _=>rfl),g.apart⟩
theorem cY.lt(g:cY enc e c encA w h B r rest l)(i:Nat)(E:i<l.length)(b:Nat)(A:(l[i]).2.ownBlock=some b):B≤b∧b<w.heap.size:=(g.own i E (by have:=g.len;omega)).lt b A
theorem cY.tu{S:Nat→Prop}(g:cY enc e c encA w h B r rest l)(t:Tu S w w1)(M:¬S r)(G:∀k,S k→k<B):cY enc e c encA w1 h B r rest l:=
 g.U (t.block r g.map.lt M) fun i E b A=>t.block b (g.lt i E b A).2 fun e=>by have:=G b e;have:=(g.lt i E b A).1;omega
theorem cY.row(g:cY enc e c encA w h B r rest l)(p:K):Ow w h B e c ((aT l p).getD (ag none 0 0)) ((aT rest p).getD []).length (((aT rest p).getD []).flatMap encA):=by
 unfold aT;rw[oN g.keys p];cases hp:bm rest p with
 |none=>exact Ow.nil _ _ _ _ _
 |some k=>have A:=fv hp;have E:=g.len;simp only[j2,aE A,aE (show k<l.length by omega),fa,fs];exact g.own k (by omega) A
theorem cY.step(g:cY enc e c encA w h B r rest l)(aV:r<B)(p:K)(x:List α)(v:Value)(ac:aS enc w3 r (aY l p v))(aG:Ow w3 h B e c v x.length (x.flatMap encA))(ak:v.ownBlock=((aT l p).getD (ag none 0 0)).ownBlock∨∃b,v.ownBlock=some b∧w.heap.size≤b)(aL:∀b,b<w.heap.size→b≠r→((aT l p).getD (ag none 0 0)).ownBlock≠some b→w3.heap[b]? =w.heap[b]?):cY enc e c encA w3 h B r (aY rest p x) (aY l p v):=by
 have aP:=g.len;have ao:=oN g.keys p
 have aB:∀i (E:i<l.length),bm l p≠some i→Ow w3 h B e c (l[i]).2 (rest[i]'(by omega)).2.length ((rest[i]'(by omega)).2.flatMap encA):=fun i E aQ=>
  (g.own i E (by omega)).U (fun b M=>by
   have aN:=g.lt i E b M;refine aL b aN.2 (by omega) fun G=> ?_;unfold aT at G;cases hp:bm l p with
   |none=>rw[hp]at G;simp[bW]at G
   |some k=>have O:=fv hp;rw[hp]at G;simp only[j2,aE O,fa,fs]at G;have aO:i≠k:=fun A=>aQ (by rw[hp,A]);have:=EU g.apart (i:=i) (j:=k) (by simpa using E) (by simpa using O) aO;simp only[eU]at this;exact this b M G) (fun _ _=>rfl)
 have ab:∀u∈l.map (·.2),∀b,u.ownBlock=some b→b<w.heap.size:=fun u ab b M=>by obtain⟨i,E,rfl⟩:=List.mem_iff_getElem.1 ab;simp only[eU]at M;exact(g.lt i (by simpa using E) b M).2
 cases hp:bm l p with
 |none=>
  have aj:bm rest p=none:=by rw[←ao];exact hp
  have Y:aY l p v=l++[(p,v)]:=by unfold aY;rw[hp]
  have G:aY rest p x=rest++[(p,x)]:=by unfold aY;rw[aj]
  have ad:(aT l p).getD (ag none 0 0)=ag none 0 0:=by unfold aT;rw[hp];rfl
  rw[Y]at ac;rw[Y,G];refine⟨ac,by simp[g.keys],fun i E ax=> ?_,?_⟩
  ·simp only[List.length_append,List.length_cons,List.length_nil]at E;by_cases am:i<l.length;·rw[mf am,mf (by omega)];exact aB i am (by rw[hp];simp)
   ·obtain rfl:i=l.length:=by omega
    have:(rest++[(p,x)])[l.length]'ax=(p,x):=by rw[List.getElem_append_right (by omega)];simp[aP]
    rw[this];simpa using aG
  ·rw[List.map_append,List.pairwise_append];refine⟨g.apart,by simp,fun a aM b M=> ?_⟩;simp at M;subst M;intro k O A;have:=ab a aM k O;rcases ak with q|⟨b,q,M⟩;·rw[ad]at q;rw[q]at A;simp[bW]at A
   ·rw[q]at A;have:=aU A;omega
 |some k=>
  have O:=fv hp;have aj:bm rest p=some k:=by rw[←ao];exact hp
  have Y:aY l p v=l.set k (p,v):=by unfold aY;rw[hp]
  have G:aY rest p x=rest.set k (p,x):=by unfold aY;rw[aj]
  have ad:(aT l p).getD (ag none 0 0)=(l[k]).2:=by unfold aT;rw[hp];simp[O]
  rw[Y]at ac;rw[Y,G];refine⟨ac,by rw[hL,hL,g.keys],fun i E ax=> ?_,?_⟩
  ·simp only[oj]at E;rw[mg,mg];by_cases A:k=i;·rw[if_pos A,if_pos A];exact aG
   ·rw[if_neg A,if_neg A];exact aB i E (by rw[hp];exact fun aJ=>A (aU aJ))
  ·rw[hL];refine ET g.apart ab (by simpa using O) ?_;rw[ad]at ak;simpa using ak
theorem cY.wN(g:cY enc e c encA w h B r rest l)(E:r<B)(p:K):∀b,((aT l p).getD (ag none 0 0)).ownBlock=some b→b≠r:=fun b A=>by have:=(g.row p).lt b A;omega
theorem cY.append(g:cY enc e c encA w h B r rest l)(aj:r<B)(p:K)(a:α)(A:Value)(G:w.grownBy w1 (some r))(M:w1.grownBy w2 ((aT l p).getD (ag none 0 0)).ownBlock)(O:w2.grownBy w3 (some r))(ab:Ow w2 h B e c A (((aT rest p).getD []).length+1) (((aT rest p).getD []).flatMap encA++encA a))(bk:A.ownBlock=((aT l p).getD (ag none 0 0)).ownBlock∨A.ownBlock=some w1.heap.size)(ak:aS enc w3 r (aY l p A)):cY enc e c encA w3 h B r (aY rest p ((aT rest p).getD []++[a])) (aY l p A):=by
 have ad:∀b,A.ownBlock=some b→b≠r:=fun b E=>by have:=(ab.lt b E).1;omega
 have am:Ow w3 h B e c A ((aT rest p).getD []++[a]).length (((aT rest p).getD []++[a]).flatMap encA):=by have:=ab.grown O (fun b E e=>ad b E (aU e).symm);simpa using this
 refine g.step aj p _ A ak am ?_ ?_
 ·rcases bk with q|q;·exact .inl q
  ·exact .inr ⟨_,q,G.size⟩
 ·intro b E Y ac;have ao:=G.size;have ax:=M.size;rw[O.block b (by omega) (fun e=>Y (aU e)),M.block b (by omega) (fun e=>ac e.symm),G.block b E (fun e=>Y (aU e))]
end
theorem ry:eZ ai 63 4 1 1 [ay false]:=
 .mk' (zv:=ay false) Tryz.underlying63 (by kernel_rfl) rfl rfl (by decide) (by decide)
theorem EV:eZ ai 60 63 1 24 [ag none 0 0]:=
 .mk' (zv:=ag none 0 0) Tryz.underlying60 (by kernel_rfl) rfl rfl (by decide) (by decide)
theorem EW:eZ ai 40 43 2 16 [af ae 0,af ae 0]:=
 .mk' (zv:=aq #[af ae 0,af ae 0]) Tryz.underlying40 (by kernel_rfl) rfl rfl (by decide) (by decide)
theorem EX:eZ ai 29 40 1 24 [ag none 0 0]:=
 .mk' (zv:=ag none 0 0) Tryz.underlying29 (by kernel_rfl) rfl rfl (by decide) (by decide)
theorem EY:eZ ai 59 101 6 88 [af ae 0,af ae 0,af ae 0,ah ⟨#[]⟩,ag none 0 0,ag none 0 0]:=
 .mk' (zv:=aq #[af ae 0,af ae 0,af ae 0,ah ⟨#[]⟩,ag none 0 0,ag none 0 0]) Tryz.underlying59 (by kernel_rfl) rfl rfl (by decide) (by decide)
theorem EZ:eZ ai 58 97 1 8 [.map none]:=
 .mk' (zv:= .map none) Tryz.underlying58 (by kernel_rfl) rfl rfl (by decide) (by decide)
theorem wy:eZ ai 118 121 4 32 [af ae 0,af ae 0,af ae 0,af ae 0]:=
 .mk' (zv:=aq #[af ae 0,af ae 0,af ae 0,af ae 0]) Tryz.underlying118 (by kernel_rfl) rfl rfl (by decide) (by decide)
structure cB(B:Nat)(h:Hp)(w:World)(sb:Nat)(c:List (List Int))(n gu gv gt go:Nat)(s:fD):Prop where
 box:∃ac cc,Has w sb #[ag ac n cc,ag (some ⟨gu,0,none⟩) n n,ag (some ⟨gv,0,none⟩) n n,ag (some ⟨gt,0,none⟩) n n,ag (some ⟨go,0,none⟩) n n]∧gP h (ag ac n cc) c
 I:ao h w
 len:c.length=n
 jw:n≤40
 Fm:∀r∈c,r.length=n
 ru:IR w h B gu n s.u
 rv:IR w h B gv n s.v
 rt:IR w h B gt n s.tq
 ro:IR w h B go n s.owner
 uv:gu≠gv
 ut:gu≠gt
 uo:gu≠go
 vt:gv≠gt
 vo:gv≠go
 tq:gt≠go
 bu:sb≠gu
 bv:sb≠gv
 bt:sb≠gt
 bo:sb≠go
section
variable {B:Nat} {h:Hp} {w w1:World} {sb:Nat} {c:List (List Int)} {n gu gv gt go:Nat} {s:fD}
theorem cB.cell(q:cB B h w sb c n gu gv gt go s):∃G O,Has w sb #[ag G n O,ag (some ⟨gu,0,none⟩) n n,ag (some ⟨gv,0,none⟩) n n,ag (some ⟨gt,0,none⟩) n n,ag (some ⟨go,0,none⟩) n n]∧∀i,i<n→∃b o,G=some ⟨b,o,none⟩∧b<w.heap.size∧∃b2 M c2,w.cell? ⟨b,o+i,none⟩=some (ag (some ⟨b2,M,none⟩) n c2)∧b2<w.heap.size∧h b≠none∧h b2≠none∧∀j,j<n→w.cell? ⟨b2,M+j,none⟩=some (af ae (gm c i j))∧aG (gm c i j):=by
 obtain⟨G,O,x,R⟩:=q.box;refine⟨G,O,x,fun i aY=> ?_⟩;have aQ:=q.len;obtain⟨cs,ab,aB⟩:=R;rw[aQ]at ab;have aT:=ab;obtain⟨b,o,rfl,aM,aO⟩:=ab.cells q.I (by omega);obtain⟨aX,⟨ao,aj,rfl,ad⟩,ak⟩:=aB.at 1 io.len i (by omega);have am:=q.Fm c[i] (aK _);rw[am]at ak ad;have c1:=aO i (ag ao n aj) (by have:=ak 0 (by omega);simpa using this);obtain⟨ac,aL⟩:=ad;rw[am]at ac;have aV:=ac;obtain⟨b2,M,rfl,aN,aP⟩:=ac.cells q.I (by omega);refine⟨b,o,rfl,aM,b2,M,aj,c1,aN,?_,?_,fun j hj=> ?_⟩
 ·obtain⟨a,cp,e,_,_,E⟩:=aT;rcases E with E|⟨b',aS,ax,A,Y,_⟩;·omega
  ·simp only[bU]at e;rw[←e.1]at A;simp only[aC,cx,and_true]at A;rw[A.1,Y];simp
 ·obtain⟨a,cp,e,_,_,E⟩:=aV;rcases E with E|⟨b',aS,ax,A,Y,_⟩;·omega
  ·simp only[bU]at e;rw[←e.1]at A;simp only[aC,cx,and_true]at A;rw[A.1,Y];simp
 ·have aJ:gm c i j=c[i][j]:=by simp[gm,ge,List.getD_eq_getElem?_getD,aE (show i<c.length by omega),aE (show j<c[i].length by omega)]
  rw[aJ];exact⟨aP j _ (by simp[aE (show j<c[i].length by omega)]),aL _ (aK _)⟩
theorem cB.tu{S:Nat→Prop}(q:cB B h w sb c n gu gv gt go s)(t:Tu S w w1)(A:∀k,S k→h k=none∧k≠sb∧k≠gu∧k≠gv∧k≠gt∧k≠go):cB B h w1 sb c n gu gv gt go s:=by obtain⟨E,G,x,R⟩:=q.box;exact{q with box:=⟨E,G,x.tu t (fun e=>(A _ e).2.1 rfl),R⟩,I:=t.I q.I fun k e=>(A k e).1,ru:=q.ru.tu t (fun e=>(A _ e).2.2.1 rfl),rv:=q.rv.tu t (fun e=>(A _ e).2.2.2.1 rfl),rt:=q.rt.tu t (fun e=>(A _ e).2.2.2.2.1 rfl),ro:=q.ro.tu t (fun e=>(A _ e).2.2.2.2.2 rfl)}
theorem cB.below(q:cB B h w sb c n gu gv gt go s)(b:Below w.heap.size w w1):cB B h w1 sb c n gu gv gt go s:=q.tu ((Tu.refl (fun _=>False) w).below b) fun _ e=>e.elim
theorem cB.drewN(q:cB B h w sb c n gu gv gt go s)(k:Nat):cB B h (w.drewN k) sb c n gu gv gt go s:=q.tu ((Tu.refl (fun _=>False) w).drewN k) fun _ e=>e.elim
theorem cB.rC(q:cB B h w sb c n gu gv gt go s){i:Nat}(G:i<n)(x:Int):cB B h (w.setCell ⟨gt,i,none⟩ (af ae x)) sb c n gu gv gt go {s with tq:=s.tq.set i x}:=by obtain⟨A,E,y,R⟩:=q.box;exact{q with box:=⟨A,E,y.ne (fun e=>q.bt e.symm) i _,R⟩,I:=((Tu.refl (fun k=>k=gt) w).set (.inl rfl) _).I q.I (fun k e=>by subst e;exact Ow.free q.rt _ rfl),ru:=q.ru.ne q.ut _ _,rv:=q.rv.ne q.vt _ _,rt:=q.rt.put G x,ro:=q.ro.ne (fun e=>q.tq e.symm) _ _}
theorem cB.rD(q:cB B h w sb c n gu gv gt go s){i:Nat}(G:i<n)(x:Int):cB B h (w.setCell ⟨go,i,none⟩ (af ae x)) sb c n gu gv gt go {s with owner:=s.owner.set i x}:=by obtain⟨A,E,y,R⟩:=q.box;exact{q with box:=⟨A,E,y.ne (fun e=>q.bo e.symm) i _,R⟩,I:=((Tu.refl (fun k=>k=go) w).set (.inl rfl) _).I q.I (fun k e=>by subst e;exact Ow.free q.ro _ rfl),ru:=q.ru.ne q.uo _ _,rv:=q.rv.ne q.vo _ _,rt:=q.rt.ne q.tq _ _,ro:=q.ro.put G x}
theorem cB.rE(q:cB B h w sb c n gu gv gt go s){i:Nat}(G:i<n)(x:Int):cB B h (w.setCell ⟨gu,i,none⟩ (af ae x)) sb c n gu gv gt go {s with u:=s.u.set i x}:=by obtain⟨A,E,y,R⟩:=q.box;exact{q with box:=⟨A,E,y.ne (fun e=>q.bu e.symm) i _,R⟩,I:=((Tu.refl (fun k=>k=gu) w).set (.inl rfl) _).I q.I (fun k e=>by subst e;exact Ow.free q.ru _ rfl),ru:=q.ru.put G x,rv:=q.rv.ne (fun e=>q.uv e.symm) _ _,rt:=q.rt.ne (fun e=>q.ut e.symm) _ _,ro:=q.ro.ne (fun e=>q.uo e.symm) _ _}
theorem cB.uw(q:cB B h w sb c n gu gv gt go s){i:Nat}(G:i<n)(x:Int):cB B h (w.setCell ⟨gv,i,none⟩ (af ae x)) sb c n gu gv gt go {s with v:=s.v.set i x}:=by obtain⟨A,E,y,R⟩:=q.box;exact{q with box:=⟨A,E,y.ne (fun e=>q.bv e.symm) i _,R⟩,I:=((Tu.refl (fun k=>k=gv) w).set (.inl rfl) _).I q.I (fun k e=>by subst e;exact Ow.free q.rv _ rfl),ru:=q.ru.ne q.uv _ _,rv:=q.rv.put G x,rt:=q.rt.ne (fun e=>q.vt e.symm) _ _,ro:=q.ro.ne (fun e=>q.vo e.symm) _ _}
end
theorem Fo(a b:Int):(a==b)=decide (a=b):=by by_cases h:a=b<;>simp[h]
theorem yd{B:Nat}{h:Hp}{w:World}{sb:Nat}{c:List (List Int)}{n gu gv gt go:Nat}{s:fD}(q:cB B h w sb c n gu gv gt go s)(i j:Nat)(G:i<n)(hj:j<n):Calls ai 182 #[.pointer (some ⟨sb,0,none⟩),af ae i,af ae j] w fun e w'=>e= .returned (ay (gD c s.u s.v i j))∧Below w.heap.size w w':=by
 obtain⟨ab,M,x,A⟩:=q.cell;obtain⟨b,o,rfl,aj,b2,ax,c2,ac,ak,-,-,E⟩:=A i G;obtain⟨ad,-⟩:=E j hj;have aP:=x.lt;have aM:w.cell? ⟨sb,0,none⟩=some (ag (some ⟨b,o,none⟩) n M):=x.cl 0;have aN:w.cell? ⟨sb,1,none⟩=some (ag (some ⟨gu,0,none⟩) n n):=x.cl 1;have aO:w.cell? ⟨sb,2,none⟩=some (ag (some ⟨gv,0,none⟩) n n):=x.cl 2;have O:=q.ru.get G;have Y:=q.rv.get hj;have am:=q.ru.lt;have l2:=q.rv.lt;have aB:(0:Int)≤(i:Int):=by omega
 have aG:(i:Int)<(n:Int):=by omega
 have aJ:(0:Int)≤(j:Int):=by omega
 have aL:(j:Int)<(n:Int):=by omega
 have ao:=q.jw;clear x A E q;go_enter Tryz.func182,Tryz.ntmps182;go_wp2_with fail;go_quiet(fail);go_wp2_with fail;refine aF (v:=ay (gD c s.u s.v i j)) (by simp[aH,Tryz.results182,go_sem,Fo,gD,bS];try exact decide_eq_decide.2 Iff.rfl) rfl ⟨rfl,(aD _ _).drewN _⟩
theorem Fp{B B':Nat}{h:Hp}{sb:Nat}{c:List (List Int)}{n gu gv gt go gf:Nat}(O:Nat)(_hrow:O<n)(Y:List Int)(_bf:gf≠sb)(bt:gf≠gt)(aM:gf≠go):∀(f:Nat) (w:World) (s:fD) (_:cB B h w sb c n gu gv gt go s) (_:IR w h B' gf n Y) (ab:Int) (aj owner:List Int) (_:k0 O Y f ab s.tq s.owner=some (aj,owner)),Calls ai 181 #[.pointer (some ⟨sb,0,none⟩),af ae ab,af ae O,ag (some ⟨gf,0,none⟩) n n] w fun e w'=>e= .returned (.tuple #[])∧cB B h w' sb c n gu gv gt go {s with tq:=aj,owner:=owner}∧Tu (fun k=>k=gt∨k=go) w w':=by
 intro f w s q E ab aj owner A;have Q:=aa q;have ax:=aa E;have aJ:=aa A;clear q E A;go_enter Tryz.func181,Tryz.ntmps181;go_wp2_with fail;go_loopg[1] f (fun k p wr=>∃(M:Int) (t o:List Int),p=af ae M∧k0 O Y k M t o=some (aj,owner)∧cB B h wr sb c n gu gv gt go {s with tq:=t,owner:=o}∧Tu (fun k=>k=gt∨k=go) w wr);case atStart=>exact⟨ab,s.tq,s.owner,rfl,aJ.out,Q.out,Tu.refl _ _⟩
 case round=>
  obtain⟨M,t,o,rfl,A,q,ak⟩:=hrel;cases gk with
  |zero=>simp[k0]at A
  |succ k=>
   simp only[k0]at A;split at A;case isFalse=>cases A
   case isTrue aG=>
    have aT:=ax.out.len;have aN:=q.rt.len;simp only at aN;obtain⟨i,rfl⟩:∃i:Nat,M=i:=⟨M.toNat,by omega⟩
    obtain⟨r,ad⟩:∃r:Nat,ge Y i=r:=⟨(ge Y i).toNat,by omega⟩
    have E:=ax.out.tu ak (by rintro(e|e);exact bt e;exact aM e);have ac:i<n:=by omega
    have am:r<n:=by omega
    have aO:=E.get ac;rw[ad]at aO;obtain⟨aQ,aS,x,-⟩:=q.box;have ba:wr.cell? ⟨sb,3,none⟩=some (ag (some ⟨gt,0,none⟩) n n):=x.cl 3;have bd:wr.cell? ⟨sb,4,none⟩=some (ag (some ⟨go,0,none⟩) n n):=x.cl 4;have aP:=q.rt.get am;have bg:=q.rt.fz am;have bm:=q.ro.fz ac;have bp:=q.ro.get ac;simp only at aP;have aV:=q.rt.lt;have l2:=q.ro.lt;have aX:=E.lt;have aY:=x.lt;have aZ:=q.bt;have a1:=q.tq;have a2:=q.bo;have a3:=q.jw;have a4:(0:Int)≤(i:Int):=by omega
    have a5:(i:Int)<(n:Int):=by omega
    have a8:(0:Int)≤(r:Int):=by omega
    have a9:(r:Int)<(n:Int):=by omega
    have ao:=aa ((q.rC am (i:Int)).rD ac (r:Int));have aB:=aa ((ak.set (p:=⟨gt,r,none⟩) (.inl (.inl rfl)) (af ae (i:Int))).set (p:=⟨go,i,none⟩) (.inl (.inr rfl)) (af ae (r:Int)));rw[ad]at A;simp only[Int.toNat_natCast]at A;by_cases G:(r:Int)=(O:Int);·have g1:=kO G;rw[if_pos G]at A;simp only[aC,jg]at A;obtain⟨rfl,rfl⟩:=A;clear q ak x E ad aG G;go_wp2_with fail;refine aF (results_none rfl _ _ _) rfl ?_;exact⟨rfl,ao.out,aB.out⟩
    ·have g1:=kK G;rw[if_neg G]at A;have aL:=aa A;clear q ak x E ad aG G A;go_wp2_with fail;go_roundg k;case measure=>omega
     case rel=>exact⟨_,_,_,rfl,aL.out,ao.out,aB.out⟩
theorem AA(w:World)(s:ByteArray)(aP:s.size≤140737488355328)(z:Int)(i:Nat)(hz:z=(i:Int))(Y:i<s.size):Calls ai 195 #[ah s,af ae z] w fun e w'=>r9 s i e∧Below w.heap.size w w':=by
 subst hz;have bz:((s[i]'Y).toNat:Int)=bt s i:=ei Y;have bC:(0:Int)≤(i:Int):=by omega
 have bE:(i:Int)<(s.size:Int):=by omega
 go_enter Tryz.func195,Tryz.ntmps195;go_wp2_with fail;have ab:Hid (Has (w.alloc (.cells #[af ae 0,af ae 0,af ae 0,af ae 0] 253)) w.heap.size #[af ae 0,af ae 0,af ae 0,af ae 0]):=Has.new _ _ _;have B0:Hid (Below w.heap.size w (w.alloc (.cells #[af ae 0,af ae 0,af ae 0,af ae 0] 253))):=(aD _ _).alloc (an _) _;generalize w.alloc (.cells #[af ae 0,af ae 0,af ae 0,af ae 0] 253)=w0 at ab B0⊢;have bB:=ab.out.lt;obtain⟨⟨A,k1,k2,k3⟩,aX,aY,aZ,a1⟩:=ab.out.four;refine(tH _ _).mono ?_;rintro e w2 ⟨rfl,rfl⟩;generalize(hR (bt s i)||mH (bt s i))=ax;cases ax;·go_wp2_with fail;refine aF (v:=aq #[af ae 0,af ae 0,af ae 1,af ae i]) (by simp[aH,hN,go_sem,A,k1,k2,k3]) rfl ?_;exact⟨fE s i _ _ (by decide),B0.out.aM (an _) _ _ _ _⟩
 ·by_cases E:bt s i=34
  ·have aL:(bt s i==34)=true:=by simpa using E
   clear E;go_wp2_with fail;go_loop[6,23,24,25,26,27,28,29,30,31,32,33,34,35,36,37,38,39,40,41,42,43,44,45,46,47,48,49,50,51,52,53,54,55,56,57,58,59,60] (fun q _ _ _ _ _ _ _ _ _ _ _ _ _ _ _ _ _ _ _ _ _ _ _ _ _ _ _ _ _ _ _ _ _ _ _ _ _ _=>∃n:Nat,i+1≤n∧n≤s.size∧q=af ae n) (fun q _ _ _ _ _ _ _ _ _ _ _ _ _ _ _ _ _ _ _ _ _ _ _ _ _ _ _ _ _ _ _ _ _ _ _ _ _ _=>s.size-(intOf q).toNat);case atStart=>exact⟨i+1,an _,Y,by go_num⟩
   case round=>
    obtain⟨n,a9,aV,rfl⟩:=hrel;by_cases aj:n<s.size
    ·have bq:(0:Int)≤(n:Int):=by omega
     have bv:(n:Int)<(s.size:Int):=by omega
     have a4:((s[n]'aj).toNat:Int)=bt s n:=ei aj;by_cases E:bt s n=34
     ·have a5:(bt s n==34)=true:=by simpa using E
      clear E;go_wp2_with fail;refine aF (v:=aq #[af ae ((n:Int)+1-(i:Int)),af ae 6,af ae 0,af ae 0]) (by simp[aH,hN,go_sem,A,k1,k2,k3]) rfl ?_;exact⟨e8 s i _ (n+1-i) _ (by first|rfl|omega) (by omega) (by omega),B0.out.aM (an _) _ _ _ _⟩
     ·have a5:(bt s n==34)=false:=by simpa using E
      clear E;go_wp2_with fail;refine(tH _ _).mono ?_;rintro e w2 ⟨rfl,rfl⟩;generalize(hR (bt s n)||mH (bt s n))=ax;cases ax;·go_wp2_with fail;refine aF (v:=aq #[af ae 0,af ae 0,af ae 1,af ae n]) (by simp[aH,hN,go_sem,A,k1,k2,k3]) rfl ?_;exact⟨fE s i _ _ (by decide),B0.out.aM (an _) _ _ _ _⟩
      ·go_wp2_with fail;refine(xw _ _).mono ?_;rintro e w2 ⟨rfl,rfl⟩;generalize mH (bt s n)=bm;cases bm;·go_wp2_with fail;refine aF (v:=aq #[af ae 0,af ae 0,af ae 2,af ae i]) (by simp[aH,hN,go_sem,A,k1,k2,k3]) rfl ?_;exact⟨fE s i _ _ (by decide),B0.out.aM (an _) _ _ _ _⟩
       ·by_cases ak:bt s n=92
        ·have aM:(bt s n==92)=true:=by simpa using ak
         clear ak;go_wp2_with fail;refine aF (v:=aq #[af ae 0,af ae 0,af ae 2,af ae i]) (by simp[aH,hN,go_sem,A,k1,k2,k3]) rfl ?_;exact⟨fE s i _ _ (by decide),B0.out.aM (an _) _ _ _ _⟩
        ·have aM:(bt s n==92)=false:=by simpa using ak
         clear ak;go_wp2_with fail;go_round;case rel=>exact⟨n+1,by omega,by omega,by go_num⟩
         case measure=>simp[intOf];omega
    ·obtain rfl:n=s.size:=by omega
     go_wp2_with fail;refine aF (v:=aq #[af ae 0,af ae 0,af ae 2,af ae i]) (by simp[aH,hN,go_sem,A,k1,k2,k3]) rfl ?_;exact⟨fE s i _ _ (by decide),B0.out.aM (an _) _ _ _ _⟩
  ·have aL:(bt s i==34)=false:=by simpa using E
   clear E;go_wp2_with fail;refine(tG _ _).mono ?_;rintro e w2 ⟨rfl,rfl⟩;obtain⟨aB,M⟩:∃b,ey (bt s i)=b:=⟨_,rfl⟩
   rw[M];have a2:=aa M;clear M;cases aB
   ·have aT:Hid (eI (bt s i)=(fU (bt s i)||fc (bt s i))):=rfl;go_wp2_with fail;refine(tF _ _).mono ?_;rintro e w2 ⟨rfl,rfl⟩;obtain⟨bd,aO⟩:∃b,fU (bt s i)=b:=⟨_,rfl⟩
    rw[aO];have aS:=aa aO;clear aO;cases bd
    ·go_wp2_with fail;refine(kX _ _).mono ?_;rintro e w2 ⟨rfl,rfl⟩;obtain⟨bp,aQ⟩:∃b,fc (bt s i)=b:=⟨_,rfl⟩
     rw[aQ];have a3:=aa aQ;clear aQ;cases bp
     ·go_wp2_with fail;refine(EF _ s aP i Y).mono ?_;rintro e w2 ⟨n,rfl,aV,rfl⟩;by_cases a8:n=0;·subst a8;go_wp2_with fail;refine aF (v:=aq #[af ae 0,af ae 0,af ae 2,af ae i]) (by simp[aH,hN,go_sem,A,k1,k2,k3]) rfl ?_;exact⟨fE s i _ _ (by decide),B0.out.aM (an _) _ _ _ _⟩
      ·have bA:((n:Int)==0)=false:=by rw[beq_eq_false_iff_ne];omega
       go_wp2_with fail;refine aF (v:=aq #[af ae n,af ae 8,af ae 0,af ae 0]) (by simp[aH,hN,go_sem,A,k1,k2,k3]) rfl ?_;exact⟨e8 s i _ n _ (by first|rfl|omega) (by omega) (by omega),B0.out.aM (an _) _ _ _ _⟩
     ·have ao:Hid (eI (bt s i)=true):=by unfold Hid;simp[aT.out,aS.out,a3.out]
      go_wp2_with fail;refine(AB _ s aP i Y ao.out).mono ?_;rintro e w2 ⟨⟨l,k,ac,a,rfl,hit⟩,b2⟩;have IT:=aa hit;have am:=aa (B0.out.trans (b2.mono (by omega)));have O:=ab.out.below b2;obtain⟨⟨A,k1,k2,k3⟩,aX,aY,aZ,a1⟩:=O.four;have bg:=O.lt;clear hit b2 O;go_wp2_with fail;refine aF (v:=aq #[af ae l,af ae k,af ae ac,af ae a]) (by simp[aH,hN,go_sem,A,k1,k2,k3]) rfl ?_;exact⟨⟨l,k,ac,a,rfl,IT.out⟩,am.out.aM (an _) _ _ _ _⟩
    ·have ao:Hid (eI (bt s i)=true):=by unfold Hid;simp[aT.out,aS.out]
     go_wp2_with fail;refine(AB _ s aP i Y ao.out).mono ?_;rintro e w2 ⟨⟨l,k,ac,a,rfl,hit⟩,b2⟩;have IT:=aa hit;have am:=aa (B0.out.trans (b2.mono (by omega)));have O:=ab.out.below b2;obtain⟨⟨A,k1,k2,k3⟩,aX,aY,aZ,a1⟩:=O.four;have bg:=O.lt;clear hit b2 O;go_wp2_with fail;refine aF (v:=aq #[af ae l,af ae k,af ae ac,af ae a]) (by simp[aH,hN,go_sem,A,k1,k2,k3]) rfl ?_;exact⟨⟨l,k,ac,a,rfl,IT.out⟩,am.out.aM (an _) _ _ _ _⟩
   ·go_wp2_with fail;go_loop[7,67,68,69,70,71,72,73,74,75,76,77,78] (fun q _ _ _ _ _ _ _ _ _ _ _ _=>∃n:Nat,i≤n∧n≤s.size∧q=af ae n) (fun q _ _ _ _ _ _ _ _ _ _ _ _=>s.size-(intOf q).toNat);case atStart=>exact⟨i,an _,by omega,rfl⟩
    case round=>
     obtain⟨n,a9,aV,rfl⟩:=hrel;by_cases aj:n<s.size
     ·have bq:(0:Int)≤(n:Int):=by omega
      have bv:(n:Int)<(s.size:Int):=by omega
      have a4:((s[n]'aj).toNat:Int)=bt s n:=ei aj;go_wp2_with fail;refine(tG _ _).mono ?_;rintro e w2 ⟨rfl,rfl⟩;obtain⟨aB,M⟩:∃b,ey (bt s n)=b:=⟨_,rfl⟩
      rw[M];cases aB
      ·have ba:i<n:=by
        rcases Nat.lt_or_ge i n with h|h;·exact h
        ·have:i=n:=by omega
         subst this;rw[a2.out]at M;cases M
       clear M;by_cases g1:1<n-i
       ·have aG:(1:Int)<(n:Int)-(i:Int):=by omega
        by_cases G:bt s i=48
        ·have aJ:(bt s i==48)=true:=by simpa using G
         clear G;go_wp2_with fail;refine aF (v:=aq #[af ae 0,af ae 0,af ae 2,af ae i]) (by simp[aH,hN,go_sem,A,k1,k2,k3]) rfl ?_;exact⟨fE s i _ _ (by decide),B0.out.aM (an _) _ _ _ _⟩
        ·have aJ:(bt s i==48)=false:=by simpa using G
         clear G;by_cases aM:15<n-i
         ·have ad:(15:Int)<(n:Int)-(i:Int):=by omega
          go_wp2_with fail;refine aF (v:=aq #[af ae 0,af ae 0,af ae 3,af ae i]) (by simp[aH,hN,go_sem,A,k1,k2,k3]) rfl ?_;exact⟨fE s i _ _ (by decide),B0.out.aM (an _) _ _ _ _⟩
         ·have ad:¬(15:Int)<(n:Int)-(i:Int):=by omega
          have aN:decide ((15:Int)<(n:Int)-(i:Int))=false:=by simp;omega
          go_wp2_with fail;refine aF (v:=aq #[af ae ((n:Int)-(i:Int)),af ae 5,af ae 0,af ae 0]) (by simp[aH,hN,go_sem,A,k1,k2,k3]) rfl ?_;exact⟨e8 s i _ (n-i) _ (by first|rfl|omega) (by omega) (by omega),B0.out.aM (an _) _ _ _ _⟩
       ·have aG:decide ((1:Int)<(n:Int)-(i:Int))=false:=by simp;omega
        have aL:¬(1:Int)<(n:Int)-(i:Int):=by omega
        have ad:¬(15:Int)<(n:Int)-(i:Int):=by omega
        have aN:decide ((15:Int)<(n:Int)-(i:Int))=false:=by simp;omega
        go_wp2_with fail;refine aF (v:=aq #[af ae ((n:Int)-(i:Int)),af ae 5,af ae 0,af ae 0]) (by simp[aH,hN,go_sem,A,k1,k2,k3]) rfl ?_;exact⟨e8 s i _ (n-i) _ (by first|rfl|omega) (by omega) (by omega),B0.out.aM (an _) _ _ _ _⟩
      ·clear M;go_wp2_with fail;go_round;case rel=>exact⟨n+1,by omega,by omega,by go_num⟩
       case measure=>simp[intOf];omega
     ·obtain rfl:n=s.size:=by omega
      have ba:i<s.size:=Y;by_cases g1:1<s.size-i
      ·have aG:(1:Int)<(s.size:Int)-(i:Int):=by omega
       by_cases G:bt s i=48
       ·have aJ:(bt s i==48)=true:=by simpa using G
        clear G;go_wp2_with fail;refine aF (v:=aq #[af ae 0,af ae 0,af ae 2,af ae i]) (by simp[aH,hN,go_sem,A,k1,k2,k3]) rfl ?_;exact⟨fE s i _ _ (by decide),B0.out.aM (an _) _ _ _ _⟩
       ·have aJ:(bt s i==48)=false:=by simpa using G
        clear G;by_cases aM:15<s.size-i
        ·have ad:(15:Int)<(s.size:Int)-(i:Int):=by omega
         go_wp2_with fail;refine aF (v:=aq #[af ae 0,af ae 0,af ae 3,af ae i]) (by simp[aH,hN,go_sem,A,k1,k2,k3]) rfl ?_;exact⟨fE s i _ _ (by decide),B0.out.aM (an _) _ _ _ _⟩
        ·have ad:¬(15:Int)<(s.size:Int)-(i:Int):=by omega
         have aN:decide ((15:Int)<(s.size:Int)-(i:Int))=false:=by simp;omega
         go_wp2_with fail;refine aF (v:=aq #[af ae ((s.size:Int)-(i:Int)),af ae 5,af ae 0,af ae 0]) (by simp[aH,hN,go_sem,A,k1,k2,k3]) rfl ?_;exact⟨e8 s i _ (s.size-i) _ (by first|rfl|omega) (by omega) (by omega),B0.out.aM (an _) _ _ _ _⟩
      ·have aG:decide ((1:Int)<(s.size:Int)-(i:Int))=false:=by simp;omega
       have aL:¬(1:Int)<(s.size:Int)-(i:Int):=by omega
       have ad:¬(15:Int)<(s.size:Int)-(i:Int):=by omega
       have aN:decide ((15:Int)<(s.size:Int)-(i:Int))=false:=by simp;omega
       go_wp2_with fail;refine aF (v:=aq #[af ae ((s.size:Int)-(i:Int)),af ae 5,af ae 0,af ae 0]) (by simp[aH,hN,go_sem,A,k1,k2,k3]) rfl ?_;exact⟨e8 s i _ (s.size-i) _ (by first|rfl|omega) (by omega) (by omega),B0.out.aM (an _) _ _ _ _⟩
def AC(e:Ending):Prop:=∃k:Int,e= .returned (af ae k)
theorem pc(k:Int):AC (.returned (af ae k)):=⟨k,rfl⟩
theorem u5(w:World)(s:ByteArray)(aj:s.size≤140737488355328):Calls ai 158 #[ah s] w fun e w'=>AC e∧Below w.heap.size w w':=by
 go_enter Tryz.func158,Tryz.ntmps158;by_cases O:s.data.toList=[]
 ·have ad:s.toList.isEmpty=true:=by rw[eT,O];rfl
  go_wp2_with fail;go_ret;exact⟨pc _,aD _ _⟩
 ·have ad:s.toList.isEmpty=false:=by rw[eT];simpa using O
  have h1:0<s.size:=by
   rcases Nat.eq_zero_or_pos s.size with h|h;·exact absurd (List.eq_nil_of_length_eq_zero h) O
   ·exact h
  have am:((s[0]'h1).toNat:Int)=bt s 0:=ei h1;go_wp2_with fail;refine(tE _ _).mono ?_;rintro e w2 ⟨rfl,rfl⟩;generalize hR (bt s 0)=ak;cases ak
  ·by_cases A:bt s 0=35
   ·have ab:(bt s 0==35)=true:=by simpa using A
    clear A;go_wp2_with fail;go_ret;exact⟨pc _,aD _ _⟩
   ·have ab:(bt s 0==35)=false:=by simpa using A
    clear A;go_wp2_with fail;refine(AA _ s aj 0 0 rfl h1).mono ?_;rintro e w2 ⟨⟨l,k,M,a,rfl,hit⟩,b2⟩;have G:Hid (Below w.heap.size w (w2.alloc (.cells #[af ae l,af ae k,af ae M,af ae a] 253))):=b2.alloc b2.size _;clear hit b2;by_cases Y:M=0
    ·subst Y;by_cases E:(l:Int)=(s.size:Int)
     ·have ac:((l:Int)!=(s.size:Int))=false:=by simpa using E
      clear E;go_wp2_with fail;go_ret;exact⟨pc _,G.out⟩
     ·have ac:((l:Int)!=(s.size:Int))=true:=by simpa using E
      clear E;go_wp2_with fail;go_ret;exact⟨pc _,G.out⟩
    ·have ge:(M !=0)=true:=by simpa using Y
     clear Y;go_wp2_with fail;go_ret;exact⟨pc _,G.out⟩
  ·go_wp2_with fail;go_ret;exact⟨pc _,aD _ _⟩
theorem HU(w:World)(s:ByteArray):Calls ai 159 #[ah s] w fun e w'=>nS e∧w=w':=by
 go_enter Tryz.func159,Tryz.ntmps159;go_wp2_with fail;all_goals go_ret
 all_goals exact⟨fW _,rfl⟩
theorem HV(w:World)(k:Int)(s:ByteArray)(E:s.size≤140737488355328):Calls ai 110 #[af ae k,ah s] w fun e w'=>nS e∧Below w.heap.size w w':=by
 go_enter Tryz.func110,Tryz.ntmps110;go_wp2_with fail;refine(u5 _ s E).mono ?_;rintro e w2 ⟨⟨c,rfl⟩,b2⟩;have A:=aa b2;clear b2;go_wp2_with(first|(go_at_call 159;refine(HU _ _).mono ?_;rintro e w3 ⟨⟨b,rfl⟩,rfl⟩));all_goals go_ret
 all_goals exact⟨fW _,A.out⟩
end Go.Proofs.YtdplggpbgommnaaGreatDoor
