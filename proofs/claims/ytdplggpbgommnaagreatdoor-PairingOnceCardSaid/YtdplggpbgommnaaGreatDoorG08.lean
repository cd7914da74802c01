/- The cells of a certificate. -/
import Derived.Test.YtdplggpbgommnaaGreatDoorRn
import Derived.Test.YtdplggpbgommnaaGreatDoorG06
open Go renaming bodyPost_ret->aF,results->aH
open Go.Addr.mk renaming injEq->cx
open Go.ByteArray renaming toList_eq->eT
open Go.IntKind renaming i64->ae
open Go.Lib renaming hid->aa
open Go.Proofs.Tryz renaming prog->ai,results195->hN
open Go.RowKit.Below renaming refl->aD
open Go.Value renaming agg->aq,bool->ay,int->af,ownBlock->bW,slice->ag,string->ah
open Go.Value.slice renaming injEq->bU
open List renaming getElem?_eq_getElem->aE,getElem_append_left->mf,getElem_map->eU,getElem_mem->aK,getElem_set->mg,length_set->KW,map_set->hL,pairwise_iff_getElem->K3
open List.Pairwise renaming nil->B1
open Nat renaming add_assoc->bP,le_refl->kI
open Option renaming bind_some->j2,getD_some->BW,map_some->fa
open Option.some renaming injEq->aC,inj->aU
open Prod.mk renaming injEq->jg
set_option maxRecDepth 100000
set_option maxHeartbeats 4000000
namespace Go.Proofs.YtdplggpbgommnaaGreatDoor
open Go.RowKit
theorem mF.gA{h:Hp}{v:Value}{l:List dY}(hv:mF h v l)(aB:0<l.length):∃b off J,v=ag (some ⟨b,off,none⟩) l.length J/\l.length<=140737488355328/\
  ∀w,ao h w->b<w.heap.size/\∀i (aj:i<l.length),∃ap cp ar cr,w.cell? ⟨b,off+i*6,none⟩=some (af ae l[i].a)/\w.cell? ⟨b,off+i*6+1,none⟩=some (af ae l[i].b)/\
   w.cell? ⟨b,off+i*6+2,none⟩=some (af ae l[i].cost)/\w.cell? ⟨b,off+i*6+3,none⟩=some (ag ap l[i].kids.aR.length cp)/\w.cell? ⟨b,off+i*6+4,none⟩=some (af ae l[i].kids.cost)/\
   w.cell? ⟨b,off+i*6+5,none⟩=some (ag ar l[i].kids.bM.length cr)/\
   C0 h (aq #[ag ap l[i].kids.aR.length cp,af ae l[i].kids.cost,ag ar l[i].kids.bM.length cr]) l[i].kids/\aG l[i].a/\aG l[i].b/\aG l[i].cost/\aG l[i].kids.cost:=by
 obtain⟨cs,s,e⟩:=hv;obtain⟨a,J,rfl,hn⟩:=s.shape;have hs:=s;obtain⟨a',aO,he,h1,h2,O⟩:=hs;simp only[bU,true_and]at he;obtain⟨rfl,rfl⟩:=he;rcases O with O|⟨b,off,c,rfl,aJ,hc⟩;·omega
 refine⟨b,off,J,rfl,hn,fun w ab=>⟨cD (ab b c aJ),fun i aj=> ?_⟩⟩;obtain⟨b',aQ,Y,aP,G⟩:=s.cells ab aB;simp only[aC,cx,and_true]at Y;obtain⟨rfl,rfl⟩:=Y;obtain⟨c5,g1,g2⟩:=e.at 6 kN.len i aj;obtain⟨r,rfl,aL,aM,aN,ap,cp,ar,cr,rfl,ak,am,ax⟩:=g1;refine⟨ap,cp,ar,cr,?_,?_,?_,?_,?_,?_,⟨_,rfl,ap,cp,ar,cr,rfl,ak,am,ax⟩,aL,aM,aN,ak⟩;·exact G _ _ (g2 0 (by omega))
 ·rw[bP];exact G _ _ (g2 1 (by omega))
 ·rw[bP];exact G _ _ (g2 2 (by omega))
 ·rw[bP];exact G _ _ (g2 3 (by omega))
 ·rw[bP];exact G _ _ (g2 4 (by omega))
 ·rw[bP];exact G _ _ (g2 5 (by omega))
def cj(a b:Value):Prop:=∀g,a.ownBlock=some g->b.ownBlock≠some g
theorem ET{H:List Value}{N k:Nat}{v:Value}(hp:H.Pairwise cj)(ab:∀u∈H,∀g,u.ownBlock=some g->g<N)(ak:k<H.length)(hv:v.ownBlock=H[k].ownBlock\/∃g,v.ownBlock=some g/\N<=g):(H.set k v).Pairwise cj:=by
 rw[K3]at hp⊢;intro i j J hj Y;simp only[KW]at J hj;rw[mg,mg];by_cases h1:k=i
 ·subst h1;rw[if_pos rfl,if_neg (by omega)];rcases hv with e|⟨g,e,aj⟩;·intro q G;rw[e]at G;exact hp k j J hj Y q G
  ·intro q G O;rw[e]at G;have:=ab H[j] (aK hj) q O;have:=aU G;omega
 ·by_cases h2:k=j
  ·subst h2;rw[if_neg h1,if_pos rfl];rcases hv with e|⟨g,e,aj⟩;·intro q G;rw[e];exact hp i k J hj Y q G
   ·intro q G O;rw[e]at O;have:=ab H[i] (aK J) q G;have:=aU O;omega
  ·rw[if_neg h1,if_neg h2];exact hp i j J hj Y
theorem EU{H:List Value}(hp:H.Pairwise cj){i j:Nat}(G:i<H.length)(hj:j<H.length)(J:i≠j):cj H[i] H[j]:=by
 rcases Nat.lt_or_gt_of_ne J with h|h;·exact K3.1 hp i j G hj h
 ·intro g h1 h2;exact K3.1 hp j i hj G h g h2 h1
theorem uh{K α:Type}[DecidableEq K](l:List (K×α))(p:K):bm l p=(l.map (·.1)).findIdx? fun q=>decide (q=p):=by unfold bm;rw[List.findIdx?_map];rfl
theorem oN{K α G:Type}[DecidableEq K]{l:List (K×α)}{m:List (K×G)}(h:l.map (·.1)=m.map (·.1))(p:K):bm l p=bm m p:=by rw[uh,uh,h]
structure cY{K α:Type}[DecidableEq K](enc:K->Value)(e:TypeId)(c:Nat)(encA:α->List Value)(w:World)(h:Hp)(B r:Nat)(rest:List (K×List α))(l:List (K×Value)):Prop where
 map:aS enc w r l
 keys:l.map (·.1)=rest.map (·.1)
 own:∀i (hi:i<l.length) (hr:i<rest.length),Ow w h B e c (l[i]).2 (rest[i]).2.length ((rest[i]).2.flatMap encA)
 apart:(l.map (·.2)).Pairwise cj
section
variable {K α:Type} [DecidableEq K] {enc:K->Value} {e:TypeId} {c:Nat} {encA:α->List Value} {w w1 w2 w3:World} {h:Hp} {B r:Nat} {rest:List (K×List α)} {l:List (K×Value)}
theorem cY.len(g:cY enc e c encA w h B r rest l):l.length=rest.length:=by have:=congrArg List.length g.keys;simpa using this
theorem cY.start(w:World)(h:Hp)(B:Nat):cY enc e c encA (w.alloc (.map #[] 0)) h B w.heap.size [] []:=
 ⟨aS.new _ _,rfl,fun i G=>by simp at G,B1⟩
theorem cY.keep(g:cY enc e c encA w h B r rest l)(hm:w1.heap[r]? =w.heap[r]?)(O:∀i (G:i<l.length),∀b,(l[i]).2.ownBlock=some b->w1.heap[b]? =w.heap[b]?):cY enc e c encA w1 h B r rest l:=
 ⟨g.map.keep hm,g.keys,fun i G hr=>(g.own i G hr).keep (fun b J=>O i G b J) (fun _ _=>rfl),g.apart⟩
theorem cY.lt(g:cY enc e c encA w h B r rest l)(i:Nat)(J:i<l.length)(b:Nat)(G:(l[i]).2.ownBlock=some b):B<=b/\b<w.heap.size:=(g.own i J (by have:=g.len;omega)).lt b G
theorem cY.tu{S:Nat->Prop}(g:cY enc e c encA w h B r rest l)(t:Tu S w w1)(hr:¬S r)(hS:∀k,S k->k<B):cY enc e c encA w1 h B r rest l:=
 g.keep (t.block r g.map.lt hr) fun i J b G=>t.block b (g.lt i J b G).2 fun e=>by have:=hS b e;have:=(g.lt i J b G).1;omega
theorem cY.row(g:cY enc e c encA w h B r rest l)(p:K):Ow w h B e c ((aT l p).getD (ag none 0 0)) ((aT rest p).getD []).length (((aT rest p).getD []).flatMap encA):=by
 unfold aT;rw[oN g.keys p];cases hp:bm rest p with
 |none=>exact Ow.nil _ _ _ _ _
 |some k=>have G:=fv hp;have J:=g.len;simp only[j2,aE G,aE (show k<l.length by omega),fa,BW];exact g.own k (by omega) G
theorem cY.step(g:cY enc e c encA w h B r rest l)(hr:r<B)(p:K)(x:List α)(v:Value)(am:aS enc w3 r (aY l p v))(aL:Ow w3 h B e c v x.length (x.flatMap encA))(hv:v.ownBlock=((aT l p).getD (ag none 0 0)).ownBlock\/∃b,v.ownBlock=some b/\w.heap.size<=b)(aN:∀b,b<w.heap.size->b≠r->((aT l p).getD (ag none 0 0)).ownBlock≠some b->w3.heap[b]? =w.heap[b]?):cY enc e c encA w3 h B r (aY rest p x) (aY l p v):=by
 have aQ:=g.len;have aG:=oN g.keys p
 have keep:∀i (J:i<l.length),bm l p≠some i->Ow w3 h B e c (l[i]).2 (rest[i]'(by omega)).2.length ((rest[i]'(by omega)).2.flatMap encA):=fun i J aV=>
  (g.own i J (by omega)).keep (fun b Y=>by
   have aO:=g.lt i J b Y;refine aN b aO.2 (by omega) fun O=> ?_;unfold aT at O;cases hp:bm l p with
   |none=>rw[hp]at O;simp[bW]at O
   |some k=>have ab:=fv hp;rw[hp]at O;simp only[j2,aE ab,fa,BW]at O;have aP:i≠k:=fun G=>aV (by rw[hp,G]);have:=EU g.apart (i:=i) (j:=k) (by simpa using J) (by simpa using ab) aP;simp only[eU]at this;exact this b Y O) (fun _ _=>rfl)
 have ak:∀u∈l.map (·.2),∀b,u.ownBlock=some b->b<w.heap.size:=fun u ak b Y=>by obtain⟨i,J,rfl⟩:=List.mem_iff_getElem.1 ak;simp only[eU]at Y;exact(g.lt i (by simpa using J) b Y).2
 cases hp:bm l p with
 |none=>
  have ax:bm rest p=none:=by rw[<-aG];exact hp
  have aj:aY l p v=l++[(p,v)]:=by unfold aY;rw[hp]
  have O:aY rest p x=rest++[(p,x)]:=by unfold aY;rw[ax]
  have ao:(aT l p).getD (ag none 0 0)=ag none 0 0:=by unfold aT;rw[hp];rfl
  rw[aj]at am;rw[aj,O];refine⟨am,by simp[g.keys],fun i J aJ=> ?_,?_⟩
  ·simp only[List.length_append,List.length_cons,List.length_nil]at J;by_cases aB:i<l.length;·rw[mf aB,mf (by omega)];exact keep i aB (by rw[hp];simp)
   ·obtain rfl:i=l.length:=by omega
    have:(rest++[(p,x)])[l.length]'aJ=(p,x):=by rw[List.getElem_append_right (by omega)];simp[aQ]
    rw[this];simpa using aL
  ·rw[List.map_append,List.pairwise_append];refine⟨g.apart,by simp,fun a ha b Y=> ?_⟩;simp at Y;subst Y;intro k ab G;have:=ak a ha k ab;rcases hv with q|⟨b,q,Y⟩;·rw[ao]at q;rw[q]at G;simp[bW]at G
   ·rw[q]at G;have:=aU G;omega
 |some k=>
  have ab:=fv hp;have ax:bm rest p=some k:=by rw[<-aG];exact hp
  have aj:aY l p v=l.set k (p,v):=by unfold aY;rw[hp]
  have O:aY rest p x=rest.set k (p,x):=by unfold aY;rw[ax]
  have ao:(aT l p).getD (ag none 0 0)=(l[k]).2:=by unfold aT;rw[hp];simp[ab]
  rw[aj]at am;rw[aj,O];refine⟨am,by rw[hL,hL,g.keys],fun i J aJ=> ?_,?_⟩
  ·simp only[KW]at J;rw[mg,mg];by_cases G:k=i;·rw[if_pos G,if_pos G];exact aL
   ·rw[if_neg G,if_neg G];exact keep i J (by rw[hp];exact fun aM=>G (aU aM))
  ·rw[hL];refine ET g.apart ak (by simpa using ab) ?_;rw[ao]at hv;simpa using hv
theorem cY.wN(g:cY enc e c encA w h B r rest l)(hr:r<B)(p:K):∀b,((aT l p).getD (ag none 0 0)).ownBlock=some b->b≠r:=fun b G=>by have:=(g.row p).lt b G;omega
theorem cY.append(g:cY enc e c encA w h B r rest l)(hr:r<B)(p:K)(a:α)(G:Value)(O:w.grownBy w1 (some r))(Y:w1.grownBy w2 ((aT l p).getD (ag none 0 0)).ownBlock)(ab:w2.grownBy w3 (some r))(ak:Ow w2 h B e c G (((aT rest p).getD []).length+1) (((aT rest p).getD []).flatMap encA++encA a))(bk:G.ownBlock=((aT l p).getD (ag none 0 0)).ownBlock\/G.ownBlock=some w1.heap.size)(ax:aS enc w3 r (aY l p G)):cY enc e c encA w3 h B r (aY rest p ((aT rest p).getD []++[a])) (aY l p G):=by
 have ao:∀b,G.ownBlock=some b->b≠r:=fun b J=>by have:=(ak.lt b J).1;omega
 have aB:Ow w3 h B e c G ((aT rest p).getD []++[a]).length (((aT rest p).getD []++[a]).flatMap encA):=by have:=ak.grown ab (fun b J e=>ao b J (aU e).symm);simpa using this
 refine g.step hr p _ G ax aB ?_ ?_
 ·rcases bk with q|q;·exact .inl q
  ·exact .inr ⟨_,q,O.size⟩
 ·intro b J aj am;have aG:=O.size;have aJ:=Y.size;rw[ab.block b (by omega) (fun e=>aj (aU e)),Y.block b (by omega) (fun e=>am e.symm),O.block b J (fun e=>aj (aU e))]
end
theorem ry:eZ ai 63 4 1 1 [ay false]:=
 .mk' (zv:=ay false) Tryz.underlying63 (by kernel_rfl) rfl rfl (by decide) (by decide)
theorem EV:eZ ai 60 63 1 24 [ag none 0 0]:=
 .mk' (zv:=ag none 0 0) Tryz.underlying60 (by kernel_rfl) rfl rfl (by decide) (by decide)
theorem EW:eZ ai 40 43 2 16 [af ae 0,af ae 0]:=
 .mk' (zv:=aq #[af ae 0,af ae 0]) Tryz.underlying40 (by kernel_rfl) rfl rfl (by decide) (by decide)
theorem EX:eZ ai 29 40 1 24 [ag none 0 0]:=
 .mk' (zv:=ag none 0 0) Tryz.underlying29 (by kernel_rfl) rfl rfl (by decide) (by decide)
theorem EY:eZ ai 59 101 6 88 [af ae 0,af ae 0,af ae 0,ah ⟨#[]⟩,ag none 0 0,ag none 0 0]:=
 .mk' (zv:=aq #[af ae 0,af ae 0,af ae 0,ah ⟨#[]⟩,ag none 0 0,ag none 0 0]) Tryz.underlying59 (by kernel_rfl) rfl rfl (by decide) (by decide)
theorem EZ:eZ ai 58 97 1 8 [.map none]:=
 .mk' (zv:= .map none) Tryz.underlying58 (by kernel_rfl) rfl rfl (by decide) (by decide)
theorem wy:eZ ai 118 121 4 32 [af ae 0,af ae 0,af ae 0,af ae 0]:=
 .mk' (zv:=aq #[af ae 0,af ae 0,af ae 0,af ae 0]) Tryz.underlying118 (by kernel_rfl) rfl rfl (by decide) (by decide)
structure cB(B:Nat)(h:Hp)(w:World)(sb:Nat)(c:List (List Int))(n gu gv gt go:Nat)(s:fD):Prop where
 box:∃ac cc,Has w sb #[ag ac n cc,ag (some ⟨gu,0,none⟩) n n,ag (some ⟨gv,0,none⟩) n n,ag (some ⟨gt,0,none⟩) n n,ag (some ⟨go,0,none⟩) n n]/\gP h (ag ac n cc) c
 I:ao h w
 len:c.length=n
 jw:n<=40
 Fm:∀r∈c,r.length=n
 ru:IR w h B gu n s.u
 rv:IR w h B gv n s.v
 rt:IR w h B gt n s.tq
 ro:IR w h B go n s.owner
 uv:gu≠gv
 ut:gu≠gt
 uo:gu≠go
 vt:gv≠gt
 vo:gv≠go
 tq:gt≠go
 bu:sb≠gu
 bv:sb≠gv
 bt:sb≠gt
 bo:sb≠go
section
variable {B:Nat} {h:Hp} {w w1:World} {sb:Nat} {c:List (List Int)} {n gu gv gt go:Nat} {s:fD}
theorem cB.cell(q:cB B h w sb c n gu gv gt go s):∃ac O,Has w sb #[ag ac n O,ag (some ⟨gu,0,none⟩) n n,ag (some ⟨gv,0,none⟩) n n,ag (some ⟨gt,0,none⟩) n n,ag (some ⟨go,0,none⟩) n n]/\∀i,i<n->∃b o,ac=some ⟨b,o,none⟩/\b<w.heap.size/\∃b2 J c2,w.cell? ⟨b,o+i,none⟩=some (ag (some ⟨b2,J,none⟩) n c2)/\b2<w.heap.size/\h b≠none/\h b2≠none/\∀j,j<n->w.cell? ⟨b2,J+j,none⟩=some (af ae (gm c i j))/\aG (gm c i j):=by
 obtain⟨ac,O,x,R⟩:=q.box;refine⟨ac,O,x,fun i aX=> ?_⟩;have aP:=q.len;obtain⟨cs,ab,aB⟩:=R;rw[aP]at ab;have aS:=ab;obtain⟨b,o,rfl,aM,hc⟩:=ab.cells q.I (by omega);obtain⟨aV,⟨ad,am,rfl,ak⟩,ao⟩:=aB.at 1 io.len i (by omega);have hr:=q.Fm c[i] (aK _);rw[hr]at ao ak;have c1:=hc i (ag ad n am) (by have:=ao 0 (by omega);simpa using this);obtain⟨aj,aL⟩:=ak;rw[hr]at aj;have aT:=aj;obtain⟨b2,J,rfl,aN,aO⟩:=aj.cells q.I (by omega);refine⟨b,o,rfl,aM,b2,J,am,c1,aN,?_,?_,fun j hj=> ?_⟩
 ·obtain⟨a,cp,e,_,_,G⟩:=aS;rcases G with G|⟨b',aQ,ax,e',Y,_⟩;·omega
  ·simp only[bU]at e;rw[<-e.1]at e';simp only[aC,cx,and_true]at e';rw[e'.1,Y];simp
 ·obtain⟨a,cp,e,_,_,G⟩:=aT;rcases G with G|⟨b',aQ,ax,e',Y,_⟩;·omega
  ·simp only[bU]at e;rw[<-e.1]at e';simp only[aC,cx,and_true]at e';rw[e'.1,Y];simp
 ·have aJ:gm c i j=c[i][j]:=by simp[gm,ge,List.getD_eq_getElem?_getD,aE (show i<c.length by omega),aE (show j<c[i].length by omega)]
  rw[aJ];exact⟨aO j _ (by simp[aE (show j<c[i].length by omega)]),aL _ (aK _)⟩
theorem cB.tu{S:Nat->Prop}(q:cB B h w sb c n gu gv gt go s)(t:Tu S w w1)(hS:∀k,S k->h k=none/\k≠sb/\k≠gu/\k≠gv/\k≠gt/\k≠go):cB B h w1 sb c n gu gv gt go s:=by obtain⟨ac,G,x,R⟩:=q.box;exact{q with box:=⟨ac,G,x.tu t (fun e=>(hS _ e).2.1 rfl),R⟩,I:=t.I q.I fun k e=>(hS k e).1,ru:=q.ru.tu t (fun e=>(hS _ e).2.2.1 rfl),rv:=q.rv.tu t (fun e=>(hS _ e).2.2.2.1 rfl),rt:=q.rt.tu t (fun e=>(hS _ e).2.2.2.2.1 rfl),ro:=q.ro.tu t (fun e=>(hS _ e).2.2.2.2.2 rfl)}
theorem cB.below(q:cB B h w sb c n gu gv gt go s)(b:Below w.heap.size w w1):cB B h w1 sb c n gu gv gt go s:=q.tu ((Tu.refl (fun _=>False) w).below b) fun _ e=>e.elim
theorem cB.drewN(q:cB B h w sb c n gu gv gt go s)(k:Nat):cB B h (w.drewN k) sb c n gu gv gt go s:=q.tu ((Tu.refl (fun _=>False) w).drewN k) fun _ e=>e.elim
theorem cB.rC(q:cB B h w sb c n gu gv gt go s){i:Nat}(J:i<n)(x:Int):cB B h (w.setCell ⟨gt,i,none⟩ (af ae x)) sb c n gu gv gt go {s with tq:=s.tq.set i x}:=by obtain⟨ac,G,y,R⟩:=q.box;exact{q with box:=⟨ac,G,y.ne (fun e=>q.bt e.symm) i _,R⟩,I:=((Tu.refl (fun k=>k=gt) w).set (.inl rfl) _).I q.I (fun k e=>by subst e;exact Ow.free q.rt _ rfl),ru:=q.ru.ne q.ut _ _,rv:=q.rv.ne q.vt _ _,rt:=q.rt.put J x,ro:=q.ro.ne (fun e=>q.tq e.symm) _ _}
theorem cB.rD(q:cB B h w sb c n gu gv gt go s){i:Nat}(J:i<n)(x:Int):cB B h (w.setCell ⟨go,i,none⟩ (af ae x)) sb c n gu gv gt go {s with owner:=s.owner.set i x}:=by obtain⟨ac,G,y,R⟩:=q.box;exact{q with box:=⟨ac,G,y.ne (fun e=>q.bo e.symm) i _,R⟩,I:=((Tu.refl (fun k=>k=go) w).set (.inl rfl) _).I q.I (fun k e=>by subst e;exact Ow.free q.ro _ rfl),ru:=q.ru.ne q.uo _ _,rv:=q.rv.ne q.vo _ _,rt:=q.rt.ne q.tq _ _,ro:=q.ro.put J x}
theorem cB.rE(q:cB B h w sb c n gu gv gt go s){i:Nat}(J:i<n)(x:Int):cB B h (w.setCell ⟨gu,i,none⟩ (af ae x)) sb c n gu gv gt go {s with u:=s.u.set i x}:=by obtain⟨ac,G,y,R⟩:=q.box;exact{q with box:=⟨ac,G,y.ne (fun e=>q.bu e.symm) i _,R⟩,I:=((Tu.refl (fun k=>k=gu) w).set (.inl rfl) _).I q.I (fun k e=>by subst e;exact Ow.free q.ru _ rfl),ru:=q.ru.put J x,rv:=q.rv.ne (fun e=>q.uv e.symm) _ _,rt:=q.rt.ne (fun e=>q.ut e.symm) _ _,ro:=q.ro.ne (fun e=>q.uo e.symm) _ _}
theorem cB.uw(q:cB B h w sb c n gu gv gt go s){i:Nat}(J:i<n)(x:Int):cB B h (w.setCell ⟨gv,i,none⟩ (af ae x)) sb c n gu gv gt go {s with v:=s.v.set i x}:=by obtain⟨ac,G,y,R⟩:=q.box;exact{q with box:=⟨ac,G,y.ne (fun e=>q.bv e.symm) i _,R⟩,I:=((Tu.refl (fun k=>k=gv) w).set (.inl rfl) _).I q.I (fun k e=>by subst e;exact Ow.free q.rv _ rfl),ru:=q.ru.ne q.uv _ _,rv:=q.rv.put J x,rt:=q.rt.ne (fun e=>q.vt e.symm) _ _,ro:=q.ro.ne (fun e=>q.vo e.symm) _ _}
end
theorem Fo(a b:Int):(a==b)=decide (a=b):=by by_cases h:a=b<;>simp[h]
theorem yd{B:Nat}{h:Hp}{w:World}{sb:Nat}{c:List (List Int)}{n gu gv gt go:Nat}{s:fD}(q:cB B h w sb c n gu gv gt go s)(i j:Nat)(G:i<n)(hj:j<n):Calls ai 182 #[.pointer (some ⟨sb,0,none⟩),af ae i,af ae j] w fun e w'=>e= .returned (ay (gD c s.u s.v i j))/\Below w.heap.size w w':=by
 obtain⟨ac,J,x,hc⟩:=q.cell;obtain⟨b,o,rfl,ak,b2,aB,c2,ab,am,-,-,hd⟩:=hc i G;obtain⟨aj,-⟩:=hd j hj;have zs:=x.lt;have aN:w.cell? ⟨sb,0,none⟩=some (ag (some ⟨b,o,none⟩) n J):=x.cl 0;have aO:w.cell? ⟨sb,1,none⟩=some (ag (some ⟨gu,0,none⟩) n n):=x.cl 1;have aP:w.cell? ⟨sb,2,none⟩=some (ag (some ⟨gv,0,none⟩) n n):=x.cl 2;have O:=q.ru.get G;have Y:=q.rv.get hj;have ao:=q.ru.lt;have l2:=q.rv.lt;have aG:(0:Int)<=(i:Int):=by omega
 have aJ:(i:Int)<(n:Int):=by omega
 have aL:(0:Int)<=(j:Int):=by omega
 have aM:(j:Int)<(n:Int):=by omega
 have ax:=q.jw;clear x hc hd q;go_in;go_wp2_with fail;go_quiet(fail);go_wp2_with fail;refine aF (v:=ay (gD c s.u s.v i j)) (by simp[aH,Tryz.results182,go_sem,Fo,gD,bS];try exact decide_eq_decide.2 Iff.rfl) rfl ⟨rfl,(aD _ _).drewN _⟩
theorem Fp{B B':Nat}{h:Hp}{sb:Nat}{c:List (List Int)}{n gu gv gt go gf:Nat}(row:Nat)(_hrow:row<n)(src:List Int)(_bf:gf≠sb)(bt:gf≠gt)(aN:gf≠go):∀(f:Nat) (w:World) (s:fD) (_:cB B h w sb c n gu gv gt go s) (_:IR w h B' gf n src) (ab:Int) (ak owner:List Int) (_:k0 row src f ab s.tq s.owner=some (ak,owner)),Calls ai 181 #[.pointer (some ⟨sb,0,none⟩),af ae ab,af ae row,ag (some ⟨gf,0,none⟩) n n] w fun e w'=>e= .returned (.tuple #[])/\cB B h w' sb c n gu gv gt go {s with tq:=ak,owner:=owner}/\Tu (fun k=>k=gt\/k=go) w w':=by
 intro f w s q J ab ak owner G;have Q:=aa q;have aB:=aa J;have aL:=aa G;clear q J G;go_in;go_wp2_with fail;go_loopg[1] f (fun k p wr=>∃(Y:Int) (t o:List Int),p=af ae Y/\k0 row src k Y t o=some (ak,owner)/\cB B h wr sb c n gu gv gt go {s with tq:=t,owner:=o}/\Tu (fun k=>k=gt\/k=go) w wr);case atStart=>exact⟨ab,s.tq,s.owner,rfl,aL.out,Q.out,Tu.refl _ _⟩
 case round=>
  obtain⟨Y,t,o,rfl,G,q,am⟩:=hrel;cases gk with
  |zero=>simp[k0]at G
  |succ k=>
   simp only[k0]at G;split at G;case isFalse=>cases G
   case isTrue aJ=>
    have aT:=aB.out.len;have aO:=q.rt.len;simp only at aO;obtain⟨i,rfl⟩:∃i:Nat,Y=i:=⟨Y.toNat,by omega⟩
    obtain⟨r,hr⟩:∃r:Nat,ge src i=r:=⟨(ge src i).toNat,by omega⟩
    have J:=aB.out.tu am (by rintro(e|e);exact bt e;exact aN e);have aj:i<n:=by omega
    have ao:r<n:=by omega
    have aP:=J.get aj;rw[hr]at aP;obtain⟨ac,aS,x,-⟩:=q.box;have ba:wr.cell? ⟨sb,3,none⟩=some (ag (some ⟨gt,0,none⟩) n n):=x.cl 3;have bd:wr.cell? ⟨sb,4,none⟩=some (ag (some ⟨go,0,none⟩) n n):=x.cl 4;have aQ:=q.rt.get ao;have bg:=q.rt.fz ao;have bm:=q.ro.fz aj;have bp:=q.ro.get aj;simp only at aQ;have aV:=q.rt.lt;have l2:=q.ro.lt;have aX:=J.lt;have aY:=x.lt;have aZ:=q.bt;have a1:=q.tq;have a2:=q.bo;have a3:=q.jw;have a4:(0:Int)<=(i:Int):=by omega
    have a5:(i:Int)<(n:Int):=by omega
    have a8:(0:Int)<=(r:Int):=by omega
    have a9:(r:Int)<(n:Int):=by omega
    have ax:=aa ((q.rC ao (i:Int)).rD aj (r:Int));have aG:=aa ((am.set (p:=⟨gt,r,none⟩) (.inl (.inl rfl)) (af ae (i:Int))).set (p:=⟨go,i,none⟩) (.inl (.inr rfl)) (af ae (r:Int)));rw[hr]at G;simp only[Int.toNat_natCast]at G;by_cases O:(r:Int)=(row:Int);·have g1:=kO O;rw[if_pos O]at G;simp only[aC,jg]at G;obtain⟨rfl,rfl⟩:=G;clear q am x J hr aJ O;go_wp2_with fail;refine aF (results_none rfl _ _ _) rfl ?_;exact⟨rfl,ax.out,aG.out⟩
    ·have g1:=kK O;rw[if_neg O]at G;have aM:=aa G;clear q am x J hr aJ O G;go_wp2_with fail;go_roundg k;case measure=>omega
     case rel=>exact⟨_,_,_,rfl,aM.out,ax.out,aG.out⟩
theorem AA(w:World)(s:ByteArray)(hs:s.size<=140737488355328)(z:Int)(i:Nat)(hz:z=(i:Int))(aj:i<s.size):Calls ai 195 #[ah s,af ae z] w fun e w'=>r9 s i e/\Below w.heap.size w w':=by
 subst hz;have bz:((s[i]'aj).toNat:Int)=bt s i:=ei aj;have bB:(0:Int)<=(i:Int):=by omega
 have bC:(i:Int)<(s.size:Int):=by omega
 go_in;go_wp2_with fail;have ak:Hid (Has (w.alloc (.cells #[af ae 0,af ae 0,af ae 0,af ae 0] 253)) w.heap.size #[af ae 0,af ae 0,af ae 0,af ae 0]):=Has.new _ _ _;have B0:Hid (Below w.heap.size w (w.alloc (.cells #[af ae 0,af ae 0,af ae 0,af ae 0] 253))):=(aD _ _).alloc (kI _) _;generalize w.alloc (.cells #[af ae 0,af ae 0,af ae 0,af ae 0] 253)=w0 at ak B0⊢;have bA:=ak.out.lt;obtain⟨⟨G,k1,k2,k3⟩,aX,aY,aZ,a1⟩:=ak.out.four;refine(tH _ _).mono ?_;rintro e w2 ⟨rfl,rfl⟩;generalize(Kh (bt s i)||mH (bt s i))=aL;cases aL;·go_wp2_with fail;refine aF (v:=aq #[af ae 0,af ae 0,af ae 1,af ae i]) (by simp[aH,hN,go_sem,G,k1,k2,k3]) rfl ?_;exact⟨fE s i _ _ (by decide),B0.out.aM (kI _) _ _ _ _⟩
 ·by_cases J:bt s i=34
  ·have aN:(bt s i==34)=true:=by simpa using J
   clear J;go_wp2_with fail;go_loop[6] (fun q=>∃n:Nat,i+1<=n/\n<=s.size/\q=af ae n) (fun q=>s.size-(intOf q).toNat);case atStart=>exact⟨i+1,kI _,aj,by go_num⟩
   case round=>
    obtain⟨n,a9,hn,rfl⟩:=hrel;by_cases ax:n<s.size
    ·have bq:(0:Int)<=(n:Int):=by omega
     have bv:(n:Int)<(s.size:Int):=by omega
     have a4:((s[n]'ax).toNat:Int)=bt s n:=ei ax;by_cases J:bt s n=34
     ·have a5:(bt s n==34)=true:=by simpa using J
      clear J;go_wp2_with fail;refine aF (v:=aq #[af ae ((n:Int)+1-(i:Int)),af ae 6,af ae 0,af ae 0]) (by simp[aH,hN,go_sem,G,k1,k2,k3]) rfl ?_;exact⟨e8 s i _ (n+1-i) _ (by first|rfl|omega) (by omega) (by omega),B0.out.aM (kI _) _ _ _ _⟩
     ·have a5:(bt s n==34)=false:=by simpa using J
      clear J;go_wp2_with fail;refine(tH _ _).mono ?_;rintro e w2 ⟨rfl,rfl⟩;generalize(Kh (bt s n)||mH (bt s n))=aL;cases aL;·go_wp2_with fail;refine aF (v:=aq #[af ae 0,af ae 0,af ae 1,af ae n]) (by simp[aH,hN,go_sem,G,k1,k2,k3]) rfl ?_;exact⟨fE s i _ _ (by decide),B0.out.aM (kI _) _ _ _ _⟩
      ·go_wp2_with fail;refine(xw _ _).mono ?_;rintro e w2 ⟨rfl,rfl⟩;generalize mH (bt s n)=bm;cases bm;·go_wp2_with fail;refine aF (v:=aq #[af ae 0,af ae 0,af ae 2,af ae i]) (by simp[aH,hN,go_sem,G,k1,k2,k3]) rfl ?_;exact⟨fE s i _ _ (by decide),B0.out.aM (kI _) _ _ _ _⟩
       ·by_cases aB:bt s n=92
        ·have aO:(bt s n==92)=true:=by simpa using aB
         clear aB;go_wp2_with fail;refine aF (v:=aq #[af ae 0,af ae 0,af ae 2,af ae i]) (by simp[aH,hN,go_sem,G,k1,k2,k3]) rfl ?_;exact⟨fE s i _ _ (by decide),B0.out.aM (kI _) _ _ _ _⟩
        ·have aO:(bt s n==92)=false:=by simpa using aB
         clear aB;go_wp2_with fail;go_round;case rel=>exact⟨n+1,by omega,by omega,by go_num⟩
         case measure=>simp[intOf];omega
    ·obtain rfl:n=s.size:=by omega
     go_wp2_with fail;refine aF (v:=aq #[af ae 0,af ae 0,af ae 2,af ae i]) (by simp[aH,hN,go_sem,G,k1,k2,k3]) rfl ?_;exact⟨fE s i _ _ (by decide),B0.out.aM (kI _) _ _ _ _⟩
  ·have aN:(bt s i==34)=false:=by simpa using J
   clear J;go_wp2_with fail;refine(tG _ _).mono ?_;rintro e w2 ⟨rfl,rfl⟩;obtain⟨db,Y⟩:∃b,ey (bt s i)=b:=⟨_,rfl⟩
   rw[Y];have a2:=aa Y;clear Y;cases db
   ·have aV:Hid (eI (bt s i)=(fU (bt s i)||fc (bt s i))):=rfl;go_wp2_with fail;refine(tF _ _).mono ?_;rintro e w2 ⟨rfl,rfl⟩;obtain⟨bd,aQ⟩:∃b,fU (bt s i)=b:=⟨_,rfl⟩
    rw[aQ];have aT:=aa aQ;clear aQ;cases bd
    ·go_wp2_with fail;refine(kX _ _).mono ?_;rintro e w2 ⟨rfl,rfl⟩;obtain⟨bp,aS⟩:∃b,fc (bt s i)=b:=⟨_,rfl⟩
     rw[aS];have a3:=aa aS;clear aS;cases bp
     ·go_wp2_with fail;refine(EF _ s hs i aj).mono ?_;rintro e w2 ⟨n,rfl,hn,rfl⟩;by_cases a8:n=0;·subst a8;go_wp2_with fail;refine aF (v:=aq #[af ae 0,af ae 0,af ae 2,af ae i]) (by simp[aH,hN,go_sem,G,k1,k2,k3]) rfl ?_;exact⟨fE s i _ _ (by decide),B0.out.aM (kI _) _ _ _ _⟩
      ·have g0:((n:Int)==0)=false:=by rw[beq_eq_false_iff_ne];omega
       go_wp2_with fail;refine aF (v:=aq #[af ae n,af ae 8,af ae 0,af ae 0]) (by simp[aH,hN,go_sem,G,k1,k2,k3]) rfl ?_;exact⟨e8 s i _ n _ (by first|rfl|omega) (by omega) (by omega),B0.out.aM (kI _) _ _ _ _⟩
     ·have aJ:Hid (eI (bt s i)=true):=by unfold Hid;simp[aV.out,aT.out,a3.out]
      go_wp2_with fail;refine(AB _ s hs i aj aJ.out).mono ?_;rintro e w2 ⟨⟨l,k,am,a,rfl,hit⟩,b2⟩;have IT:=aa hit;have aG:=aa (B0.out.trans (b2.mono (by omega)));have ab:=ak.out.below b2;obtain⟨⟨G,k1,k2,k3⟩,aX,aY,aZ,a1⟩:=ab.four;have bg:=ab.lt;clear hit b2 ab;go_wp2_with fail;refine aF (v:=aq #[af ae l,af ae k,af ae am,af ae a]) (by simp[aH,hN,go_sem,G,k1,k2,k3]) rfl ?_;exact⟨⟨l,k,am,a,rfl,IT.out⟩,aG.out.aM (kI _) _ _ _ _⟩
    ·have aJ:Hid (eI (bt s i)=true):=by unfold Hid;simp[aV.out,aT.out]
     go_wp2_with fail;refine(AB _ s hs i aj aJ.out).mono ?_;rintro e w2 ⟨⟨l,k,am,a,rfl,hit⟩,b2⟩;have IT:=aa hit;have aG:=aa (B0.out.trans (b2.mono (by omega)));have ab:=ak.out.below b2;obtain⟨⟨G,k1,k2,k3⟩,aX,aY,aZ,a1⟩:=ab.four;have bg:=ab.lt;clear hit b2 ab;go_wp2_with fail;refine aF (v:=aq #[af ae l,af ae k,af ae am,af ae a]) (by simp[aH,hN,go_sem,G,k1,k2,k3]) rfl ?_;exact⟨⟨l,k,am,a,rfl,IT.out⟩,aG.out.aM (kI _) _ _ _ _⟩
   ·go_wp2_with fail;go_loop[7] (fun q=>∃n:Nat,i<=n/\n<=s.size/\q=af ae n) (fun q=>s.size-(intOf q).toNat);case atStart=>exact⟨i,kI _,by omega,rfl⟩
    case round=>
     obtain⟨n,a9,hn,rfl⟩:=hrel;by_cases ax:n<s.size
     ·have bq:(0:Int)<=(n:Int):=by omega
      have bv:(n:Int)<(s.size:Int):=by omega
      have a4:((s[n]'ax).toNat:Int)=bt s n:=ei ax;go_wp2_with fail;refine(tG _ _).mono ?_;rintro e w2 ⟨rfl,rfl⟩;obtain⟨db,Y⟩:∃b,ey (bt s n)=b:=⟨_,rfl⟩
      rw[Y];cases db
      ·have ba:i<n:=by
        rcases Nat.lt_or_ge i n with h|h;·exact h
        ·have:i=n:=by omega
         subst this;rw[a2.out]at Y;cases Y
       clear Y;by_cases g1:1<n-i
       ·have g2:(1:Int)<(n:Int)-(i:Int):=by omega
        by_cases O:bt s i=48
        ·have aM:(bt s i==48)=true:=by simpa using O
         clear O;go_wp2_with fail;refine aF (v:=aq #[af ae 0,af ae 0,af ae 2,af ae i]) (by simp[aH,hN,go_sem,G,k1,k2,k3]) rfl ?_;exact⟨fE s i _ _ (by decide),B0.out.aM (kI _) _ _ _ _⟩
        ·have aM:(bt s i==48)=false:=by simpa using O
         clear O;by_cases aO:15<n-i
         ·have ao:(15:Int)<(n:Int)-(i:Int):=by omega
          go_wp2_with fail;refine aF (v:=aq #[af ae 0,af ae 0,af ae 3,af ae i]) (by simp[aH,hN,go_sem,G,k1,k2,k3]) rfl ?_;exact⟨fE s i _ _ (by decide),B0.out.aM (kI _) _ _ _ _⟩
         ·have ao:¬(15:Int)<(n:Int)-(i:Int):=by omega
          have aP:decide ((15:Int)<(n:Int)-(i:Int))=false:=by simp;omega
          go_wp2_with fail;refine aF (v:=aq #[af ae ((n:Int)-(i:Int)),af ae 5,af ae 0,af ae 0]) (by simp[aH,hN,go_sem,G,k1,k2,k3]) rfl ?_;exact⟨e8 s i _ (n-i) _ (by first|rfl|omega) (by omega) (by omega),B0.out.aM (kI _) _ _ _ _⟩
       ·have g2:decide ((1:Int)<(n:Int)-(i:Int))=false:=by simp;omega
        have aN:¬(1:Int)<(n:Int)-(i:Int):=by omega
        have ao:¬(15:Int)<(n:Int)-(i:Int):=by omega
        have aP:decide ((15:Int)<(n:Int)-(i:Int))=false:=by simp;omega
        go_wp2_with fail;refine aF (v:=aq #[af ae ((n:Int)-(i:Int)),af ae 5,af ae 0,af ae 0]) (by simp[aH,hN,go_sem,G,k1,k2,k3]) rfl ?_;exact⟨e8 s i _ (n-i) _ (by first|rfl|omega) (by omega) (by omega),B0.out.aM (kI _) _ _ _ _⟩
      ·clear Y;go_wp2_with fail;go_round;case rel=>exact⟨n+1,by omega,by omega,by go_num⟩
       case measure=>simp[intOf];omega
     ·obtain rfl:n=s.size:=by omega
      have ba:i<s.size:=aj;by_cases g1:1<s.size-i
      ·have g2:(1:Int)<(s.size:Int)-(i:Int):=by omega
       by_cases O:bt s i=48
       ·have aM:(bt s i==48)=true:=by simpa using O
        clear O;go_wp2_with fail;refine aF (v:=aq #[af ae 0,af ae 0,af ae 2,af ae i]) (by simp[aH,hN,go_sem,G,k1,k2,k3]) rfl ?_;exact⟨fE s i _ _ (by decide),B0.out.aM (kI _) _ _ _ _⟩
       ·have aM:(bt s i==48)=false:=by simpa using O
        clear O;by_cases aO:15<s.size-i
        ·have ao:(15:Int)<(s.size:Int)-(i:Int):=by omega
         go_wp2_with fail;refine aF (v:=aq #[af ae 0,af ae 0,af ae 3,af ae i]) (by simp[aH,hN,go_sem,G,k1,k2,k3]) rfl ?_;exact⟨fE s i _ _ (by decide),B0.out.aM (kI _) _ _ _ _⟩
        ·have ao:¬(15:Int)<(s.size:Int)-(i:Int):=by omega
         have aP:decide ((15:Int)<(s.size:Int)-(i:Int))=false:=by simp;omega
         go_wp2_with fail;refine aF (v:=aq #[af ae ((s.size:Int)-(i:Int)),af ae 5,af ae 0,af ae 0]) (by simp[aH,hN,go_sem,G,k1,k2,k3]) rfl ?_;exact⟨e8 s i _ (s.size-i) _ (by first|rfl|omega) (by omega) (by omega),B0.out.aM (kI _) _ _ _ _⟩
      ·have g2:decide ((1:Int)<(s.size:Int)-(i:Int))=false:=by simp;omega
       have aN:¬(1:Int)<(s.size:Int)-(i:Int):=by omega
       have ao:¬(15:Int)<(s.size:Int)-(i:Int):=by omega
       have aP:decide ((15:Int)<(s.size:Int)-(i:Int))=false:=by simp;omega
       go_wp2_with fail;refine aF (v:=aq #[af ae ((s.size:Int)-(i:Int)),af ae 5,af ae 0,af ae 0]) (by simp[aH,hN,go_sem,G,k1,k2,k3]) rfl ?_;exact⟨e8 s i _ (s.size-i) _ (by first|rfl|omega) (by omega) (by omega),B0.out.aM (kI _) _ _ _ _⟩
def AC(e:Ending):Prop:=∃k:Int,e= .returned (af ae k)
theorem pc(k:Int):AC (.returned (af ae k)):=⟨k,rfl⟩
theorem u5(w:World)(s:ByteArray)(hs:s.size<=140737488355328):Calls ai 158 #[ah s] w fun e w'=>AC e/\Below w.heap.size w w':=by
 go_in;by_cases ab:s.data.toList=[]
 ·have am:s.toList.isEmpty=true:=by rw[eT,ab];rfl
  go_wp2_with fail;go_ret;exact⟨pc _,aD _ _⟩
 ·have am:s.toList.isEmpty=false:=by rw[eT];simpa using ab
  have h1:0<s.size:=by
   rcases Nat.eq_zero_or_pos s.size with h|h;·exact absurd (List.eq_nil_of_length_eq_zero h) ab
   ·exact h
  have ax:((s[0]'h1).toNat:Int)=bt s 0:=ei h1;go_wp2_with fail;refine(tE _ _).mono ?_;rintro e w2 ⟨rfl,rfl⟩;generalize Kh (bt s 0)=ao;cases ao
  ·by_cases G:bt s 0=35
   ·have aj:(bt s 0==35)=true:=by simpa using G
    clear G;go_wp2_with fail;go_ret;exact⟨pc _,aD _ _⟩
   ·have aj:(bt s 0==35)=false:=by simpa using G
    clear G;go_wp2_with fail;refine(AA _ s hs 0 0 rfl h1).mono ?_;rintro e w2 ⟨⟨l,k,Y,a,rfl,hit⟩,b2⟩;have O:Hid (Below w.heap.size w (w2.alloc (.cells #[af ae l,af ae k,af ae Y,af ae a] 253))):=b2.alloc b2.size _;clear hit b2;by_cases he:Y=0
    ·subst he;by_cases J:(l:Int)=(s.size:Int)
     ·have ak:((l:Int)!=(s.size:Int))=false:=by simpa using J
      clear J;go_wp2_with fail;go_ret;exact⟨pc _,O.out⟩
     ·have ak:((l:Int)!=(s.size:Int))=true:=by simpa using J
      clear J;go_wp2_with fail;go_ret;exact⟨pc _,O.out⟩
    ·have ge:(Y !=0)=true:=by simpa using he
     clear he;go_wp2_with fail;go_ret;exact⟨pc _,O.out⟩
  ·go_wp2_with fail;go_ret;exact⟨pc _,aD _ _⟩
theorem HU(w:World)(s:ByteArray):Calls ai 159 #[ah s] w fun e w'=>nS e/\w=w':=by
 go_in;go_wp2_with fail;all_goals go_ret
 all_goals exact⟨fW _,rfl⟩
theorem HV(w:World)(k:Int)(s:ByteArray)(hs:s.size<=140737488355328):Calls ai 110 #[af ae k,ah s] w fun e w'=>nS e/\Below w.heap.size w w':=by
 go_in;go_wp2_with fail;refine(u5 _ s hs).mono ?_;rintro e w2 ⟨⟨c,rfl⟩,b2⟩;have G:=aa b2;clear b2;go_wp2_with(first|(go_at_call 159;refine(HU _ _).mono ?_;rintro e w3 ⟨⟨b,rfl⟩,rfl⟩));all_goals go_ret
 all_goals exact⟨fW _,G.out⟩
end Go.Proofs.YtdplggpbgommnaaGreatDoor
