/- The parser: a definition is done. -/
import Derived.Test.YtdplggpbgommnaaGreatDoorPmv
import Derived.Test.YtdplggpbgommnaaGreatDoorKh2
open Go.IntKind renaming i64->ae
open Go.Lib renaming hid->aa
open Go.Proofs.Tryz renaming prog->ai
open Go.RowKit.Below renaming refl->aD
open Go.Value renaming int->af,ownBlock->bW,pointer->az,slice->ag,string->ah
open Go.Value.agg renaming injEq->oG
open List renaming cons_append->GP,getD_eq_getElem?_getD->bb,getElem?_eq_none->gM,getElem_map->eU,length_append->cI,length_cons->bF,length_map->dL,length_range->oA,length_replicate->Lz,map_append->gO,map_congr_left->jF,map_cons->cR,map_nil->KS,mem_range->ee,range_succ->dx,range->aw,replicate_succ'->KH,replicate_succ->pu,replicate->aA
open Nat renaming add_assoc->bP,add_comm->sK,le_refl->kI,zero_le->aW
open Option.some renaming inj->aU
set_option maxRecDepth 100000
set_option maxHeartbeats 4000000
namespace Go.Proofs.YtdplggpbgommnaaGreatDoor
open Go.RowKit
theorem u0{h:Hp}{a b c d:Value}{t:Tree}(s:aP h (.agg #[a,b,c,d]) t):bg h t [a,b,c,d]:=by
 obtain⟨cs,e,i⟩:=s;have:cs=[a,b,c,d]:=by simp only[oG]at e;have:=congrArg Array.toList e;simpa using this.symm
 rw[this]at i;exact i
theorem Ha{p b1 b2 b3 G Y O:Nat}{h J:Hp}{w W:World}{ts:List cU}{k:Int}{name:ByteArray}{leads:List ByteArray}{kids:List Tree}{cells:List Value}(D:eb p b1 b2 b3 h w J W ts k name leads.length (leads.map ah).toArray (ag (some ⟨G,0,none⟩) O Y))(aB:Ow W J b1 26 4 (ag (some ⟨G,0,none⟩) O Y) O cells)(aQ:aG k)(aT:kids.length=O)(a5:O<=1000)(a4:leads.length<=1000)(aS:0<leads.length)(E:aJ (bg J) kids cells)(ax:G≠b1/\G≠b2/\G≠b3/\G≠p):∃h',bB p h w h' W/\bJ h' W p ts/\aP h' (.agg #[af ae k,ah name,ag (some ⟨b2,0,none⟩) leads.length leads.length,ag (some ⟨G,0,none⟩) O Y]) (.node k name leads kids)/\h' b1=none:=by
 have aj:=D.r.qj (by simpa using aS);have am:J.le (J.add b2 (leads.map ah).toArray):=Hp.eG _ D.n2;have aX:ao (J.add b2 (leads.map ah).toArray) W:=D.st.I.add aj;have aL:∀b,b≠b2->(J.add b2 (leads.map ah).toArray) b=J b:=fun b aj=>by unfold Hp.add;rw[if_neg aj]
 have aM:Ow W (J.add b2 (leads.map ah).toArray) b1 26 4 (ag (some ⟨G,0,none⟩) O Y) O cells:=
  aB.keep (fun _ _=>rfl) (fun g ak=>by have e:G=g:=aU ak;subst e;exact aL _ ax.2.1)
 obtain⟨h',aV,l2,aN,aY⟩:=aM.giveUp aX (by omega);have ab:∀b,b≠b2->b≠G->h' b=J b:=fun b h1 h2=>(aN b (fun g ak=>by have e:G=g:=aU ak;subst e;exact h2)).trans (aL b h1)
 have a2:=(aB.lt G rfl).1;have aZ:=D.g1;have a1:=D.g2;refine⟨h',⟨D.st.gr,aV,Hp.le_trans D.st.le (Hp.le_trans am l2),fun b aO=>(ab b (by omega) (by omega)).trans (D.st.aI b aO)⟩,D.par.keep rfl (kI _) (Hp.le_trans am l2) ((ab p (fun e=>D.p2 e.symm) (fun e=>ax.2.2.2 e.symm)).trans D.par.no),?_,(ab b1 D.d12 (fun e=>ax.1 e.symm)).trans D.n1⟩;refine⟨_,rfl,?_⟩;rw[bg];subst aT;refine⟨_,_,_,_,cells,rfl,aQ,⟨_,_,rfl,by omega,by simp,.inr ⟨b2,0,(leads.map ah).toArray,rfl,l2 _ _ (by unfold Hp.add;rw[if_pos rfl]),fun i a3=>by simp⟩⟩,aY,eH.iff.2 (E.mono fun _ _ r=>r.mono (Hp.le_trans am l2))⟩
structure bY where
 v:Value
 n:Nat
 xs:List Value
def mY:bY:=⟨ag none 0 0,0,[]⟩
structure jV(w:World)(h:Hp)(B:Nat)(T:Nat->TypeId)(W:Nat->Nat)(F:Nat->bY):Prop where
 own:∀k,Ow w h B (T k) (W k) (F k).v (F k).n (F k).xs
 apart:∀k k',k≠k'->cj (F k).v (F k').v
def ba(F:Nat->bY)(k:Nat)(x:bY):Nat->bY:=fun j=>if j=k then x else F j
theorem mZ(F:Nat->bY)(k:Nat)(x:bY):ba F k x k=x:=if_pos rfl
theorem cQ(F:Nat->bY){k j:Nat}(x:bY)(h:j≠k):ba F k x j=F j:=if_neg h
section
variable {w w1:World} {h:Hp} {B:Nat} {T:Nat->TypeId} {W:Nat->Nat} {F:Nat->bY} {S:Nat->Prop}
theorem jV.start(w:World)(h:Hp)(B:Nat)(T:Nat->TypeId)(W:Nat->Nat):jV w h B T W fun _=>mY:=
 ⟨fun k=>Ow.nil _ _ _ _ _,fun k k' _ g G=>by simp[mY,bW]at G⟩
theorem jV.tu(r:jV w h B T W F)(t:Tu S w w1)(hS:∀k b,(F k).v.ownBlock=some b->¬S b):jV w1 h B T W F:=⟨fun k=>(r.own k).mO t (hS k),r.apart⟩
theorem jV.step(r:jV w h B T W F)(k:Nat)(x:bY)(t:Tu S w w1)(hS:∀j b,j≠k->(F j).v.ownBlock=some b->¬S b)(o:Ow w1 h B (T k) (W k) x.v x.n x.xs)(bk:x.v.ownBlock=(F k).v.ownBlock\/∃b,x.v.ownBlock=some b/\w.heap.size<=b):jV w1 h B T W (ba F k x):=by
 refine⟨fun j=> ?_,fun j J e=> ?_⟩
 ·by_cases hj:j=k;·subst hj;rw[mZ];exact o
  ·rw[cQ _ _ hj];exact(r.own j).mO t fun b O=>hS j b hj O
 ·by_cases hj:j=k
  ·subst hj;rw[mZ,cQ _ _ fun h=>e h.symm];intro g G h2;rcases bk with q|⟨b,q,O⟩;·rw[q]at G;exact r.apart j J e g G h2
   ·have:=((r.own J).lt g h2).2;rw[q]at G;have:=aU G;omega
  ·by_cases Y:J=k
   ·subst Y;rw[cQ _ _ hj,mZ];intro g G h2;rcases bk with q|⟨b,q,O⟩;·rw[q]at h2;exact r.apart j J e g G h2
    ·have:=((r.own j).lt g G).2;rw[q]at h2;have:=aU h2;omega
   ·rw[cQ _ _ hj,cQ _ _ Y];exact r.apart j J e
theorem Ow.rY{K:Type}{enc:K->Value}{e:TypeId}{k n r:Nat}{v:Value}{xs:List Value}{l:List (K×Value)}(o:Ow w h B e k v n xs)(m:aS enc w r l):v.ownBlock≠some r:=by
 intro hv;rcases o.row with⟨-,⟨rfl,-⟩|⟨g',J,O,rfl,-,G,-⟩⟩;·simp[bW]at hv
 ·have e:g'=r:=by simpa[bW]using hv
  subst e;unfold aS cG at m;rw[G]at m;cases m
end
def sT:Nat->TypeId
 |0=>97|1=>101|2=>3|3=>3|4=>63|_=>4
def sW:Nat->Nat
 |1=>6|_=>1
theorem lZ.of{h:Hp}{v:Value}{l:List cF}{cs:List Value}(s:Sl h v l.length 6 cs)(e:aJ (kq h) l cs):lZ h v l:=⟨cs,s,e⟩
theorem Hc(ms:List Nat)(n:Nat)(h:ms.length=n):ms.map (fun m=>Value.map (some m))=(aw n).map fun i=>Value.map (some (ms.getD i 0)):=by
 apply List.ext_getElem;·simp[h]
 ·intro i h1 h2;simp only[dL]at h1;simp[bb,List.getElem?_eq_getElem h1]
structure ec(h:Hp)(w:World)(sb:Nat)(tv:Value)(F:Nat->bY):Prop where
 I:ao h w
 rows:jV w h (sb+1) sT sW F
 box:Has w sb #[tv,(F 0).v,(F 1).v,(F 2).v,(F 3).v,(F 4).v]
 no:h sb=none
theorem Has.rY{K:Type}{enc:K->Value}{w:World}{b r:Nat}{c:Array Value}{l:List (K×Value)}(x:Has w b c)(hc:0<c.size)(m:aS enc w r l):b≠r:=by intro e;subst e;have h:=x.qj hc;unfold aS cG at m;unfold bi at h;rw[m]at h;cases h
section
variable {h:Hp} {w w1 w2:World} {sb:Nat} {tv:Value} {F:Nat->bY} {S:Nat->Prop}
theorem ec.tu(g:ec h w sb tv F)(t:Tu S w w1)(hS:∀b,S b->b≠sb/\h b=none/\∀k,(F k).v.ownBlock≠some b):ec h w1 sb tv F:=
 ⟨t.I g.I fun b G=>(hS b G).2.1,g.rows.tu t fun k b G e=>(hS b e).2.2 k G,g.box.tu t fun e=>(hS sb e).1 rfl,g.no⟩
theorem ec.below(g:ec h w sb tv F)(b:Below w.heap.size w w1):ec h w1 sb tv F:=g.tu ((Tu.refl (fun _=>False) w).below b) fun _ e=>e.elim
theorem ec.hJ(g:ec h w sb tv F)(k:Nat){b:Nat}(G:(F k).v.ownBlock=some b):sb<b/\b<w.heap.size:=by have:=(g.rows.own k).lt b G;omega
theorem ec.behind(g:ec h w sb tv F)(k:Nat)(t:Tu (fun b=>(F k).v.ownBlock=some b) w w1):Has w1 sb #[tv,(F 0).v,(F 1).v,(F 2).v,(F 3).v,(F 4).v]:=
 g.box.tu t fun e=>by have:=g.hJ k e;omega
theorem ec.put(g:ec h w sb tv F)(k:Nat)(ab:k<5)(x:bY)(t:Tu (fun b=>(F k).v.ownBlock=some b) w w1)(o:Ow w1 h (sb+1) (sT k) (sW k) x.v x.n x.xs)(bk:x.v.ownBlock=(F k).v.ownBlock\/∃b,x.v.ownBlock=some b/\w.heap.size<=b):ec h (w1.setCell ⟨sb,k+1,none⟩ x.v) sb tv (ba F k x)/\Tu (fun b=>b=sb\/(F k).v.ownBlock=some b) w (w1.setCell ⟨sb,k+1,none⟩ x.v):=by
 have hx:=g.behind k t;have O:Tu (fun b=>b=sb\/(F k).v.ownBlock=some b) w (w1.setCell ⟨sb,k+1,none⟩ x.v):=(t.mono fun b e=> .inr e).set (.inl (.inl rfl)) _;have r:=g.rows.step k x t (fun j b hj G J=>g.rows.apart j k hj b G J) o bk;have Y:=(Tu.refl (fun b=>b=sb) w1).set (p:=⟨sb,k+1,none⟩) (.inl rfl) x.v;have r':∀j b,(ba F k x j).v.ownBlock=some b->sb<b:=fun j b G=>by have:=(r.own j).lt b G;omega
 refine⟨⟨O.I g.I fun b G=> ?_,r.tu Y fun j b G e=>by have:=r' j b G;omega,?_,g.no⟩,O⟩
 ·rcases G with rfl|G;·exact g.no
  ·exact(g.rows.own k).free b G
 ·have hp:=hx.fg (k+1) (by simp;omega) x.v
  have: #[tv,(F 0).v,(F 1).v,(F 2).v,(F 3).v,(F 4).v].setIfInBounds (k+1) x.v= #[tv,(ba F k x 0).v,(ba F k x 1).v,(ba F k x 2).v,(ba F k x 3).v,(ba F k x 4).v]:=by
   have J:k=0\/k=1\/k=2\/k=3\/k=4:=by omega
   rcases J with rfl|rfl|rfl|rfl|rfl<;>rfl
  rw[<-this];exact hp
theorem ec.map{K:Type}{enc:K->Value}{r:Nat}{l:List (K×Value)}(g:ec h w sb tv F)(k:Nat)(t:Tu (fun b=>b=sb\/(F k).v.ownBlock=some b) w w1)(m:aS enc w r l):aS enc w1 r l:=
 m.tu t fun e=>by
  rcases e with e|e;·exact g.box.rY (by simp) m e.symm
  ·exact(g.rows.own k).rY m e
theorem ec.made(g:ec h w sb tv F)(k:Nat)(J:5<=k)(x:bY)(t:Tu (fun _=>False) w w1)(o:Ow w1 h (sb+1) (sT k) (sW k) x.v x.n x.xs)(bk:∃b,x.v.ownBlock=some b/\w.heap.size<=b):ec h w1 sb tv (ba F k x):=by have e:∀i,i<5->ba F k x i=F i:=fun i G=>cQ _ _ (by omega);refine⟨t.I g.I fun _ e=>e.elim,g.rows.step k x t (fun _ _ _ _ e=>e) o (.inr bk),?_,g.no⟩;rw[e 0 (by omega),e 1 (by omega),e 2 (by omega),e 3 (by omega),e 4 (by omega)];exact g.box.tu t id
end
structure GA(h:Hp)(w:World)(sb:Nat)(tv:Value)(F:Nat->bY)(ms:List Nat)(ts:List Tree)(ds:List cF)(j:Nat):Prop where
 mem:ec h w sb tv F
 n0:(F 0).n=j/\(F 0).xs=ms.map fun m=> .map (some m)
 nm:ms.length=j
 n1:(F 1).n=ds.length/\aJ (kq h) ds (F 1).xs
 n2:(F 2).n=j/\(F 2).xs=aV (aA j (-1))
 n3:(F 3).n=ds.length/\(F 3).xs=aV (aA ds.length (-1))
 n4:(F 4).n=j/\(F 4).xs=(aw j).map fun i=>(F (5+i)).v
 n5:∀i,i<j->(F (5+i)).n=(ts.getD i default).size/\(F (5+i)).xs=dZ (aA (ts.getD i default).size false)
 n6:∀i,j<=i->F (5+i)=mY
 maps:∀i,i<j->aS dQ w (ms.getD i 0) (bX (ts.getD i default).kids)
section
variable {h:Hp} {w w1:World} {sb:Nat} {tv:Value} {F:Nat->bY} {ms:List Nat} {ts:List Tree} {ds:List cF} {j:Nat} {S:Nat->Prop}
theorem GA.tu(g:GA h w sb tv F ms ts ds j)(t:Tu S w w1)(hS:∀b,S b->b≠sb/\h b=none/\(∀k,(F k).v.ownBlock≠some b)/\∀i,i<j->b≠ms.getD i 0):GA h w1 sb tv F ms ts ds j:=
 ⟨g.mem.tu t fun b G=>⟨(hS b G).1,(hS b G).2.1,(hS b G).2.2.1⟩,g.n0,g.nm,g.n1,g.n2,g.n3,g.n4,g.n5,g.n6,fun i J=>(g.maps i J).tu t fun e=>(hS _ e).2.2.2 i J rfl⟩
theorem GA.below(g:GA h w sb tv F ms ts ds j)(b:Below w.heap.size w w1):GA h w1 sb tv F ms ts ds j:=g.tu ((Tu.refl (fun _=>False) w).below b) fun _ e=>e.elim
theorem GA.def{r1 G:bY}{d:cF}{cs:List Value}(g:GA h w sb tv F ms ts ds j)(x:ec h w1 sb tv (ba (ba F 1 r1) 3 G))(hm:∀i,i<j->aS dQ w1 (ms.getD i 0) (bX (ts.getD i default).kids))(h1:r1.n=ds.length+1)(h2:r1.xs=(F 1).xs++cs)(Y:kq h d cs)(ab:G.n=ds.length+1)(aj:G.xs=(F 3).xs++[af ae (-1)]):GA h w1 sb tv (ba (ba F 1 r1) 3 G) ms ts (ds++[d]) j:=by
 have J:∀i,ba (ba F 1 r1) 3 G (5+i)=F (5+i):=fun i=>by rw[cQ _ _ (by omega),cQ _ _ (by omega)]
 refine⟨x,g.n0,g.nm,⟨by rw[cI];exact h1,?_⟩,g.n2,⟨by rw[cI];exact ab,?_⟩,⟨g.n4.1,?_⟩,fun i O=>by rw[J];exact g.n5 i O,fun i O=>by rw[J];exact g.n6 i O,hm⟩;·show aJ (kq h) (ds++[d]) r1.xs;rw[h2];exact aJ.append g.n1.2 (aJ.one Y)
 ·show G.xs=_;rw[aj,g.n3.2,cI,aV,aV];show _=List.map _ (aA (ds.length+1) (-1));rw[KH,gO];rfl
 ·simp only[J];exact g.n4.2
theorem GA.mod{r0 r2 rb G:bY}{t:Tree}{m:Nat}(g:GA h w sb tv F ms ts ds j)(x:ec h w1 sb tv (ba (ba (ba (ba F 0 r0) 2 r2) (5+j) rb) 4 G))(ak:ts.getD j default=t)(hm:∀i,i<j->aS dQ w1 (ms.getD i 0) (bX (ts.getD i default).kids))(aL:aS dQ w1 m (bX t.kids))(ab:r0.n=j+1/\r0.xs=(F 0).xs++[.map (some m)])(h2:r2.n=j+1/\r2.xs=(F 2).xs++[af ae (-1)])(aJ:rb.n=t.size/\rb.xs=dZ (aA t.size false))(aj:G.n=j+1/\G.xs=(F 4).xs++[rb.v]):GA h w1 sb tv (ba (ba (ba (ba F 0 r0) 2 r2) (5+j) rb) 4 G) (ms++[m]) ts ds (j+1):=by
 have Y:ba (ba (ba (ba F 0 r0) 2 r2) (5+j) rb) 4 G (5+j)=rb:=by rw[cQ _ _ (by omega),mZ]
 have O:∀i,i≠j->ba (ba (ba (ba F 0 r0) 2 r2) (5+j) rb) 4 G (5+i)=F (5+i):=fun i J=>by rw[cQ _ _ (by omega),cQ _ _ (by omega),cQ _ _ (by omega),cQ _ _ (by omega)]
 have am:ba (ba (ba (ba F 0 r0) 2 r2) (5+j) rb) 4 G 0=r0:=by rw[cQ _ _ (by omega),cQ _ _ (by omega),cQ _ _ (by omega),mZ]
 have ao:ba (ba (ba (ba F 0 r0) 2 r2) (5+j) rb) 4 G 1=F 1:=by rw[cQ _ _ (by omega),cQ _ _ (by omega),cQ _ _ (by omega),cQ _ _ (by omega)]
 have ax:ba (ba (ba (ba F 0 r0) 2 r2) (5+j) rb) 4 G 2=r2:=by rw[cQ _ _ (by omega),cQ _ _ (by omega),mZ]
 have aB:ba (ba (ba (ba F 0 r0) 2 r2) (5+j) rb) 4 G 3=F 3:=by rw[cQ _ _ (by omega),cQ _ _ (by omega),cQ _ _ (by omega),cQ _ _ (by omega)]
 have aG:ba (ba (ba (ba F 0 r0) 2 r2) (5+j) rb) 4 G 4=G:=mZ _ _ _;have aM:=g.nm;refine⟨x,?_,by rw[cI,g.nm];rfl,by rw[ao];exact g.n1,?_,by rw[aB];exact g.n3,?_,fun i J=> ?_,fun i J=> ?_,fun i J=> ?_⟩;·rw[am];exact⟨ab.1,by rw[ab.2,g.n0.2,gO];rfl⟩
 ·rw[ax];refine⟨h2.1,?_⟩;rw[h2.2,g.n2.2,aV,aV,KH,gO];rfl
 ·rw[aG];refine⟨aj.1,?_⟩;rw[aj.2,g.n4.2,dx,gO,cR,KS,Y];congr 1;refine jF fun i J=> ?_;rw[O i (by have:=ee.1 J;omega)]
 ·by_cases e:i=j;·subst e;rw[Y,ak];exact aJ
  ·rw[O i e];exact g.n5 i (by omega)
 ·rw[O i (by omega)];exact g.n6 i (by omega)
 ·by_cases e:i=j;·subst e;rw[ak,bb,List.getElem?_append_right (by omega),aM,Nat.sub_self];exact aL
  ·rw[bb,List.getElem?_append_left (by omega),<-bb];exact hm i (by omega)
theorem GA.done(g:GA h w sb tv F ms ts (aj 0 ts) ts.length)(aT:hQ h tv ts)(h1:ts.length<=140737488355328)(h2:(aj 0 ts).length<=140737488355328):∃h',ao h' w/\h.le h'/\(∀b,b<sb->h' b=h b)/\cC h' sb ts ms (F 2).v (F 3).v (F 4).v/\hV h' (F 4).v ((aw ts.length).map fun i=>(F (5+i)).v)/\∀k,k=2\/k=3\/5<=k->Ow w h' sb (sT k) (sW k) (F k).v (F k).n (F k).xs:=by
 obtain⟨aN,aV,aZ,aG,a2⟩:=(g.mem.rows.own 0).giveUp g.mem.I (by rw[g.n0.1];exact h1);have r1:∀k,k≠0->Ow w aN (sb+1) (sT k) (sW k) (F k).v (F k).n (F k).xs:=fun k O=>(g.mem.rows.own k).keep (fun _ _=>rfl) fun b J=>aG b fun q G e=>by subst e;exact g.mem.rows.apart k 0 O b J G
 obtain⟨aO,aX,l2,aJ,a3⟩:=(r1 1 (by decide)).giveUp aV (by rw[g.n1.1];exact h2);have r2:∀k,k≠0->k≠1->Ow w aO (sb+1) (sT k) (sW k) (F k).v (F k).n (F k).xs:=fun k O am=>(r1 k O).keep (fun _ _=>rfl) fun b J=>aJ b fun q G e=>by subst e;exact g.mem.rows.apart k 1 am b J G
 obtain⟨Y,aY,ax,aL,a4⟩:=(r2 4 (by decide) (by decide)).giveUp aX (by rw[g.n4.1];exact h1);have a1:∀k,k≠0->k≠1->k≠4->Ow w Y (sb+1) (sT k) (sW k) (F k).v (F k).n (F k).xs:=fun k O am aQ=>(r2 k O am).keep (fun _ _=>rfl) fun b J=>aL b fun q G e=>by subst e;exact g.mem.rows.apart k 4 aQ b J G
 have aM:∀b,b<=sb->Y b=h b:=fun b J=>by rw[aL b fun q G e=>by have:=g.mem.hJ 4 G;omega,aJ b fun q G e=>by have:=g.mem.hJ 1 G;omega,aG b fun q G e=>by have:=g.mem.hJ 0 G;omega]
 have aS:Y sb=none:=by rw[aM sb (kI _)];exact g.mem.no
 have aP:=g.mem.box.qj (by simp);have ab:=Hp.eG #[tv,(F 0).v,(F 1).v,(F 2).v,(F 3).v,(F 4).v] aS;have aB:h.le (Y.add sb #[tv,(F 0).v,(F 1).v,(F 2).v,(F 3).v,(F 4).v]):=Hp.le_trans (Hp.le_trans (Hp.le_trans aZ l2) ax) ab;refine⟨Y.add sb #[tv,(F 0).v,(F 1).v,(F 2).v,(F 3).v,(F 4).v],aY.add aP,aB,fun b J=> ?_,⟨tv,(F 0).v,(F 1).v,?_,aT.mono aB,?_,?_⟩,?_,fun k O=> ?_⟩;·unfold Hp.add;rw[if_neg (by omega)];exact aM b (by omega)
 ·unfold Hp.add;rw[if_pos rfl]
 ·refine lZ.of (cs:=(F 1).xs) ?_ (g.n1.2.mono fun _ _ e=>e.mono aB);rw[<-g.n1.1];exact(a3.mono ax).mono ab
 ·unfold hV;rw[<-Hc ms ts.length g.nm,<-g.n0.2];have e:(F 0).xs.length=(F 0).n:=by rw[g.n0.1,g.n0.2,dL,g.nm]
  rw[e];exact((a2.mono l2).mono ax).mono ab
 ·unfold hV;rw[<-g.n4.2];have e:(F 4).xs.length=(F 4).n:=by rw[g.n4.1,g.n4.2,dL,oA]
  rw[e];exact a4.mono ab
 ·have ak:k≠0/\k≠1/\k≠4:=by omega
  refine((a1 k ak.1 ak.2.1 ak.2.2).keep (fun _ _=>rfl) fun b J=> ?_).base (by omega);unfold Hp.add;rw[if_neg (by have:=g.mem.hJ k J;omega)]
end
theorem rZ(m:Nat):∀(G:List Tree) (n:Nat),(dt m n G).length=G.length
 |[],_=>by rw[dt];rfl
 |k::G,n=>by rw[dt,bF,bF,rZ m G]
theorem zU(m:Nat)(d:Tree):∀(G:List Tree) (n:Nat),dt m n (G++[d])=dt m n G++[⟨m,n+ax G,d⟩]
 |[],n=>by rw[List.nil_append,dt,dt,dt,ax];rfl
 |k::G,n=>by rw[GP,dt,dt,zU m d G,gR,bP];rfl
theorem u1:∀(a b:List Tree) (m:Nat),aj m (a++b)=aj m a++aj (m+a.length) b
 |[],b,m=>by rw[aj];rfl
 |t::a,b,m=>by rw[GP,aj,aj,u1 a b,List.append_assoc,bF,bP,sK 1]
theorem Hd(ts:List Tree)(j:Nat)(hj:j<ts.length):aj 0 (ts.take (j+1))=aj 0 (ts.take j)++dt j 1 ts[j].kids:=by rw[List.take_succ_eq_append_getElem hj,u1,aj,aj,List.append_nil,List.length_take,Nat.min_eq_left (by omega),Nat.zero_add]
theorem He(ts:List Tree)(j:Nat):(aj 0 (ts.take j)).length<=(aj 0 ts).length:=by have h:=u1 (ts.take j) (ts.drop j) 0;rw[List.take_append_drop]at h;rw[h,cI];omega
theorem Lh(k:Nat)(h:5<=k):sT k=4/\sW k=1:=by
 obtain⟨j,rfl⟩:∃j,k=j+5:=⟨k-5,by omega⟩
 exact⟨rfl,rfl⟩
def zV(h:Hp)(w:World)(ts:List Tree)(e:Ending)(w':World):Prop:=∃(sb:Nat) (h':Hp) (ms:List Nat) (R:Nat->Value) (mv av kv:Value),e= .returned (az (some ⟨sb,0,none⟩))/\w.heap.size<=sb/\St w.heap.size h w h' w'/\cC h' sb ts ms mv av kv/\iz w' ms ts/\
 hV h' kv ((aw ts.length).map R)/\Ow w' h' w.heap.size 3 1 mv ts.length (aV (aA ts.length (-1)))/\Ow w' h' w.heap.size 3 1 av (aj 0 ts).length (aV (aA (aj 0 ts).length (-1)))/\
 (∀i,Ow w' h' w.heap.size 4 1 (R i) ((ts.map fun t=>aA t.size false).getD i []).length (dZ ((ts.map fun t=>aA t.size false).getD i [])))/\
 cj mv av/\cj av mv/\(∀i,cj mv (R i)/\cj (R i) mv/\cj av (R i)/\cj (R i) av)/\∀i j,i≠j->cj (R i) (R j)
theorem Hf{h:Hp}{w wr:World}{tv:Value}{F:Nat->bY}{ms:List Nat}{ts:List Tree}(g:GA h wr w.heap.size tv F ms ts (aj 0 ts) ts.length)(bl:Below w.heap.size w wr)(O:hQ h tv ts)(h1:ts.length<=140737488355328)(h2:(aj 0 ts).length<=140737488355328):zV h w ts (.returned (az (some ⟨w.heap.size,0,none⟩))) wr:=by
 obtain⟨h',Y,ab,ak,am,ao,J⟩:=g.done O h1 h2;have a:=g.mem.rows.apart;refine⟨w.heap.size,h',ms,fun i=>(F (5+i)).v,(F 2).v,(F 3).v,(F 4).v,rfl,kI _,⟨bl,Y,ab,ak,kI _⟩,am,g.maps,ao,?_,?_,fun i=> ?_,a 2 3 (by decide),a 3 2 (by decide),fun i=>⟨a 2 _ (by omega),a _ 2 (by omega),a 3 _ (by omega),a _ 3 (by omega)⟩,fun i j e=>a _ _ (by omega)⟩;·have:=J 2 (by omega);rw[g.n2.1,g.n2.2]at this;exact this
 ·have:=J 3 (by omega);rw[g.n3.1,g.n3.2]at this;exact this
 ·have:=J (5+i) (by omega);rw[(Lh (5+i) (by omega)).1,(Lh (5+i) (by omega)).2]at this;by_cases G:i<ts.length
  ·have e:(ts.map fun t=>aA t.size false).getD i []=aA (ts.getD i default).size false:=by rw[getD_at (by simpa using G),getD_at G,eU]
   rw[e,Lz];rw[(g.n5 i G).1,(g.n5 i G).2]at this;exact this
  ·have e:(ts.map fun t=>aA t.size false).getD i []=[]:=by rw[bb,gM (by simpa using G)];rfl
   rw[e];show Ow wr h' w.heap.size 4 1 (F (5+i)).v [].length (dZ []);rw[g.n6 i (by omega)]at this⊢;exact this
theorem Hg{h:Hp}{a b c d:Value}{t:Tree}(s:aP h (.agg #[a,b,c,d]) t):bg h t [a,b,c,d]:=by
 obtain⟨cs,e,i⟩:=s;have:cs=[a,b,c,d]:=by simp only[oG]at e;have:=congrArg Array.toList e;simpa using this.symm
 rw[this]at i;exact i
theorem Hh(n:Nat)(hn:n<=1000000)(W:World):(Instr.makeSlice 63 (af ae (n:Int)) (af ae (n:Int))).run ai W= .ok (ag (some ⟨W.heap.size,0,none⟩) n n) (W.alloc (.cells (madeCells #[.bool false] (n*1)) 4)):=by
 obtain⟨i,zv,O,hz,Y,J,ab⟩:=ry.lJ
 have G:(i.bytes:Int)*(n:Int)<=281474976710656:=by
  rw[J];have:((1:Nat):Int)*(n:Int)<=281474976710656:=by omega
  exact this
 have:=run_make W 63 4 i zv ry.und O hz ae ae (n:Int) (n:Int) (by omega) (by omega) G (by omega);rw[this,ab,Y];rfl
def qT:Nat->TypeId
 |0=>40|_=>43
def qW:Nat->Nat
 |0=>1|_=>2
theorem Li(k:Nat):qT (1+k)=43/\qW (1+k)=2:=by rw[sK];exact⟨rfl,rfl⟩
def nc:List Value:=[af ae (-1),af ae 0]
structure iD(h:Hp)(w:World)(xb so sn:Nat)(budget:Int)(F:Nat->bY)(nt:List Tree)(j:Nat):Prop where
 I:ao h w
 rows:jV w h (xb+1) qT qW F
 box:Has w xb #[az (some ⟨so,0,none⟩),az (some ⟨sn,0,none⟩),af ae budget,(F 0).v,af ae 0,af ae 0]
 no:h xb=none
 n0:(F 0).n=j/\(F 0).xs=(aw j).map fun i=>(F (1+i)).v
 n1:∀i,i<j->(F (1+i)).n=(nt.getD i default).size/\(F (1+i)).xs=(aA (nt.getD i default).size nc).flatten
 n2:∀i,j<=i->F (1+i)=mY
section
variable {h:Hp} {w w1:World} {xb so sn:Nat} {budget:Int} {F:Nat->bY} {nt:List Tree} {j:Nat} {S:Nat->Prop}
theorem iD.tu(g:iD h w xb so sn budget F nt j)(t:Tu S w w1)(hS:∀b,S b->b≠xb/\h b=none/\∀k,(F k).v.ownBlock≠some b):iD h w1 xb so sn budget F nt j:=
 ⟨t.I g.I fun b G=>(hS b G).2.1,g.rows.tu t fun k b G e=>(hS b e).2.2 k G,g.box.tu t fun e=>(hS xb e).1 rfl,g.no,g.n0,g.n1,g.n2⟩
theorem iD.below(g:iD h w xb so sn budget F nt j)(b:Below w.heap.size w w1):iD h w1 xb so sn budget F nt j:=g.tu ((Tu.refl (fun _=>False) w).below b) fun _ e=>e.elim
theorem iD.hJ(g:iD h w xb so sn budget F nt j)(k:Nat){b:Nat}(G:(F k).v.ownBlock=some b):xb<b/\b<w.heap.size:=by have:=(g.rows.own k).lt b G;omega
theorem iD.step{rb r0:bY}{w2:World}(g:iD h w xb so sn budget F nt j)(b1:Below w.heap.size w w1)(aG:Ow w1 h (xb+1) 43 2 rb.v rb.n rb.xs)(am:∃b,rb.v.ownBlock=some b/\w.heap.size<=b)(G:rb.n=(nt.getD j default).size/\rb.xs=(aA (nt.getD j default).size nc).flatten)(t:Tu (fun b=>(F 0).v.ownBlock=some b) w1 w2)(aB:Ow w2 h (xb+1) 40 1 r0.v r0.n r0.xs)(bk:r0.v.ownBlock=(F 0).v.ownBlock\/∃b,r0.v.ownBlock=some b/\w1.heap.size<=b)(aj:r0.n=j+1/\r0.xs=(F 0).xs++[rb.v]):iD h (w2.setCell ⟨xb,3,none⟩ r0.v) xb so sn budget (ba (ba F (1+j) rb) 0 r0) nt (j+1)/\Below xb w (w2.setCell ⟨xb,3,none⟩ r0.v):=by
 have g1:=g.below b1;have tb:Tu (fun _=>False) w w1:=(Tu.refl _ _).below b1;have aJ:Ow w1 h (xb+1) (qT (1+j)) (qW (1+j)) rb.v rb.n rb.xs:=by rw[(Li j).1,(Li j).2];exact aG
 have r1:=g.rows.step (1+j) rb tb (fun _ _ _ _ e=>e) aJ (.inr am);have Y:ba F (1+j) rb 0=F 0:=cQ _ _ (by omega);have r2:=r1.step 0 r0 (t.mono (S':=fun b=>(ba F (1+j) rb 0).v.ownBlock=some b) fun b e=>by rw[Y];exact e) (fun k b ao G hs=>r1.apart k 0 ao b G hs) aB (by rw[Y];exact bk);have hx:=g1.box.tu t fun e=>by have:=g.hJ 0 e;omega
 have ax:∀k b,(ba (ba F (1+j) rb) 0 r0 k).v.ownBlock=some b->xb<b:=fun k b G=>by have:=(r2.own k).lt b G;omega
 have ak:=(Tu.refl (fun b=>b=xb) w2).set (p:=⟨xb,3,none⟩) (.inl rfl) r0.v;have tt:Tu (fun b=>b=xb\/(F 0).v.ownBlock=some b) w (w2.setCell ⟨xb,3,none⟩ r0.v):=((tb.mono fun _ e=>e.elim).step t fun k e=> .inl (.inr e)).step ak fun k e=> .inl (.inl e);have ab:ba (ba F (1+j) rb) 0 r0 (1+j)=rb:=by rw[cQ _ _ (by omega),mZ]
 have O:∀i,i≠j->ba (ba F (1+j) rb) 0 r0 (1+i)=F (1+i):=fun i J=>by rw[cQ _ _ (by omega),cQ _ _ (by omega)]
 refine⟨⟨tt.I g.I fun b G=> ?_,r2.tu ak fun k b G e=>by have:=ax k b G;omega,hx.fg 3 (by simp) r0.v,g.no,⟨aj.1,?_⟩,fun i J=> ?_,fun i J=> ?_⟩,tt.jR (by have:=g.box.lt;omega) fun k e=> ?_⟩
 ·rcases G with rfl|G;·exact g.no
  ·exact(g.rows.own 0).free b G
 ·show r0.xs=_;rw[aj.2,g.n0.2,dx,gO,cR,KS,ab];congr 1;refine jF fun i J=> ?_;rw[O i (by have:=ee.1 J;omega)]
 ·by_cases e:i=j;·subst e;rw[ab];exact G
  ·rw[O i e];exact g.n1 i (by omega)
 ·rw[O i (by omega)];exact g.n2 i (by omega)
 ·rcases e with rfl|e;·exact kI _
  ·have:=g.hJ 0 e;omega
end
theorem zW{a b:Value}{N:Nat}(ha:∀g,a.ownBlock=some g->g<N)(G:∀g,b.ownBlock=some g->N<=g):cj a b/\cj b a:=
 ⟨fun g h1 h2=>by have:=ha g h1;have:=G g h2;omega,fun g h1 h2=>by have:=G g h1;have:=ha g h2;omega⟩
def pb(om oa nm na:Value)(ro rn rr:Nat->Value):eL->Value
 | .om=>om| .nm=>nm| .oa=>oa| .na=>na| .ot i=>ro i| .nt i=>rn i| .rs i=>rr i
theorem Hi(n:Nat):(aA n ((-1:Int),(0:Int))).flatMap bV=(aA n nc).flatten:=by
 induction n with
 |zero=>rfl
 |succ n G=>rw[pu,pu,List.flatMap_cons,List.flatten_cons,G];rfl
section
variable {h1 h2:Hp} {w0 w1 w2 w3:World} {xb so sn:Nat} {budget:Int} {F:Nat->bY} {ot nt:List Tree} {B:Nat}
theorem Hj{Y ab:Nat->Value}{mv av kv eo eN dR:Value}{ms a5:List Nat}{h2:Hp}{_w2:World}(bd:cC h2 so ot ms mv av kv)(bg:cC h2 sn nt a5 eo eN dR)(g:iD h2 w3 xb so sn budget F nt nt.length)(k1:hV h2 kv ((aw ot.length).map Y))(k2:hV h2 dR ((aw nt.length).map ab))(J:Nat)(aY:B<=J)(hx:J<=xb)(bG:Ow w3 h2 B 3 1 mv ot.length (aV (aA ot.length (-1))))(bI:Ow w3 h2 B 3 1 av (aj 0 ot).length (aV (aA (aj 0 ot).length (-1))))(bJ:∀i,Ow w3 h2 B 4 1 (Y i) ((ot.map fun t=>aA t.size false).getD i []).length (dZ ((ot.map fun t=>aA t.size false).getD i [])))(bm:cj mv av)(bp:cj av mv)(aO:∀i,cj mv (Y i)/\cj (Y i) mv/\cj av (Y i)/\cj (Y i) av)(bq:∀i j,i≠j->cj (Y i) (Y j))(ak:∀g,mv.ownBlock=some g->g<J)(l2:∀g,av.ownBlock=some g->g<J)(am:∀i g,(Y i).ownBlock=some g->g<J)(a8:Ow w3 h2 J 3 1 eo nt.length (aV (aA nt.length (-1))))(a9:Ow w3 h2 J 3 1 eN (aj 0 nt).length (aV (aA (aj 0 nt).length (-1))))(ba:∀i,Ow w3 h2 J 4 1 (ab i) ((nt.map fun t=>aA t.size false).getD i []).length (dZ ((nt.map fun t=>aA t.size false).getD i [])))(b1:cj eo eN)(b2:cj eN eo)(b3:∀i,cj eo (ab i)/\cj (ab i) eo/\cj eN (ab i)/\cj (ab i) eN)(bv:∀i j,i≠j->cj (ab i) (ab j))(aQ:∀g,eo.ownBlock=some g->g<xb)(aS:∀g,eN.ownBlock=some g->g<xb)(aT:∀i g,(ab i).ownBlock=some g->g<xb)(bA:nt.length<=140737488355328):∃h' V,h2.le h'/\(∀b,b<=xb->h' b=h2 b)/\cC h' so ot ms (V .om) (V .oa) kv/\cC h' sn nt a5 (V .nm) (V .na) dR/\bH h' w3 B xb so sn budget V (cN ot nt):=by
 obtain⟨h',bC,aB,a4,bE⟩:=(g.rows.own 0).giveUp g.I (by rw[g.n0.1];exact bA);have a3:∀b,b<=xb->h' b=h2 b:=fun b aP=>a4 b fun q aZ e=>by have:=g.hJ 0 aZ;omega
 have bL:∀k,k≠0->Ow w3 h' (xb+1) (qT k) (qW k) (F k).v (F k).n (F k).xs:=fun k aG=>(g.rows.own k).keep (fun _ _=>rfl) fun b aP=>a4 b fun q aZ e=>by subst e;exact g.rows.apart k 0 aG b aP aZ
 have low:∀{e:TypeId} {k n:Nat} {v:Value} {xs:List Value} {M:Nat},Ow w3 h2 M e k v n xs->M≥B->(∀g,v.ownBlock=some g->g<=xb)->Ow w3 h' B e k v n xs:=fun o bz hv=>(o.keep (fun _ _=>rfl) fun b aP=>a3 b (hv b aP)).base bz;have ao:∀(v:Value),(∀g,v.ownBlock=some g->g<J)->∀g,v.ownBlock=some g->g<=xb:=fun v hv g e=>by have:=hv g e;omega
 have ax:∀(v:Value),(∀g,v.ownBlock=some g->g<xb)->∀g,v.ownBlock=some g->g<=xb:=fun v hv g e=>by have:=hv g e;omega
 have r0:∀i g',(F (1+i)).v.ownBlock=some g'->xb+1<=g':=fun i g' e=>by have:=g.hJ (1+i) e;omega
 have a1:∀{v:Value},(∃(e:TypeId) (k n:Nat) (xs:List Value),Ow w3 h2 J e k v n xs)->∀g',v.ownBlock=some g'->J<=g':=fun⟨_,_,_,_,o⟩ g' e=>(o.lt g' e).1;have G:∀(v u:Value),(∀g,v.ownBlock=some g->g<J)->(∀g,u.ownBlock=some g->J<=g)->cj v u/\cj u v:=fun v u hv bB=>zW hv bB;have O:∀(v:Value) (i:Nat),(∀g,v.ownBlock=some g->g<=xb)->cj v (F (1+i)).v/\cj (F (1+i)).v v:=fun v i hv=>zW (N:=xb+1) (fun g e=>by have:=hv g e;omega) (r0 i);have aM:=a1 ⟨_,_,_,_,a8⟩;have aL:=a1 ⟨_,_,_,_,a9⟩;have aJ:=fun i=>a1 ⟨_,_,_,_,ba i⟩;refine⟨h',pb mv av eo eN Y ab fun i=>(F (1+i)).v,aB,a3,bd.mono aB,bg.mono aB,bC,⟨fun k=> ?_,fun k k' aG=> ?_⟩,?_,?_,⟨(F 0).v,g.box,?_⟩,by rw[a3 xb (kI _)];exact g.no,fun k=> ?_⟩
 ·cases k with
  |om=>exact(by have:=low bG (kI _) (ao _ ak);simpa[dD,dE,cf,ch,pb,cN]using this)
  |oa=>exact(by have:=low bI (kI _) (ao _ l2);simpa[dD,dE,cf,ch,pb,cN]using this)
  |nm=>exact(by have:=low a8 aY (ax _ aQ);simpa[dD,dE,cf,ch,pb,cN]using this)
  |na=>exact(by have:=low a9 aY (ax _ aS);simpa[dD,dE,cf,ch,pb,cN]using this)
  |ot i=>exact low (bJ i) (kI _) (ao _ (am i))
  |nt i=>exact low (ba i) aY (ax _ (aT i))
  |rs i=>
   have:=(bL (1+i) (by omega)).base (B':=B) (by omega);rw[(Li i).1,(Li i).2]at this;show Ow w3 h' B 43 2 (F (1+i)).v ((nt.map fun t=>aA t.size ((-1:Int),(0:Int))).getD i []).length (((nt.map fun t=>aA t.size ((-1:Int),(0:Int))).getD i []).flatMap bV);by_cases aN:i<nt.length
   ·have e:(nt.map fun t=>aA t.size ((-1:Int),(0:Int))).getD i []=aA (nt.getD i default).size (-1,0):=by rw[getD_at (by simpa using aN),getD_at aN,eU]
    rw[e,Lz,Hi];rw[(g.n1 i aN).1,(g.n1 i aN).2]at this;exact this
   ·have e:(nt.map fun t=>aA t.size ((-1:Int),(0:Int))).getD i []=[]:=by rw[bb,gM (by simpa using aN)];rfl
    rw[e];rw[g.n2 i (by omega)]at this⊢;exact this
 ·cases k<;>cases k'<;>first
   |exact absurd rfl aG
   |exact bm
   |exact bp
   |exact b1
   |exact b2
   |exact(aO _).1
   |exact(aO _).2.1
   |exact(aO _).2.2.1
   |exact(aO _).2.2.2
   |exact(b3 _).1
   |exact(b3 _).2.1
   |exact(b3 _).2.2.1
   |exact(b3 _).2.2.2
   |exact bq _ _ fun e=>aG (by rw[e])
   |exact bv _ _ fun e=>aG (by rw[e])
   |exact g.rows.apart _ _ fun e=>aG (by rw[Nat.add_left_cancel e])
   |exact(G _ _ ak aM).1
   |exact(G _ _ ak aM).2
   |exact(G _ _ ak aL).1
   |exact(G _ _ ak aL).2
   |exact(G _ _ ak (aJ _)).1
   |exact(G _ _ ak (aJ _)).2
   |exact(G _ _ l2 aM).1
   |exact(G _ _ l2 aM).2
   |exact(G _ _ l2 aL).1
   |exact(G _ _ l2 aL).2
   |exact(G _ _ l2 (aJ _)).1
   |exact(G _ _ l2 (aJ _)).2
   |exact(G _ _ (am _) aM).1
   |exact(G _ _ (am _) aM).2
   |exact(G _ _ (am _) aL).1
   |exact(G _ _ (am _) aL).2
   |exact(G _ _ (am _) (aJ _)).1
   |exact(G _ _ (am _) (aJ _)).2
   |exact(O _ _ (ao _ ak)).1
   |exact(O _ _ (ao _ ak)).2
   |exact(O _ _ (ao _ l2)).1
   |exact(O _ _ (ao _ l2)).2
   |exact(O _ _ (ao _ (am _))).1
   |exact(O _ _ (ao _ (am _))).2
   |exact(O _ _ (ax _ aQ)).1
   |exact(O _ _ (ax _ aQ)).2
   |exact(O _ _ (ax _ aS)).1
   |exact(O _ _ (ax _ aS)).2
   |exact(O _ _ (ax _ (aT _))).1
   |exact(O _ _ (ax _ (aT _))).2
 ·obtain⟨tv,a2,aX,e,-⟩:=(bd.mono aB).box;refine⟨tv,a2,aX,kv,e,?_⟩;have:(cN ot nt).ot.length=ot.length:=by simp[cN]
  rw[this];exact k1.mono aB
 ·obtain⟨tv,a2,aX,e,-⟩:=(bg.mono aB).box;refine⟨tv,a2,aX,dR,e,?_⟩;have:(cN ot nt).nt.length=nt.length:=by simp[cN]
  rw[this];exact k2.mono aB
 ·have:(cN ot nt).rs.length=nt.length:=by simp[cN]
  rw[this];show Sl h' _ _ 1 _;rw[<-show(F 0).xs=(aw nt.length).map fun i=>(pb mv av eo eN Y ab (fun i=>(F (1+i)).v)) (.rs i)from g.n0.2];have e:(F 0).xs.length=(F 0).n:=by rw[g.n0.1,g.n0.2,dL,oA]
  rw[e];exact bE
 ·cases k with
  |om=>exact fun e=>by have:=ak _ e;omega
  |oa=>exact fun e=>by have:=l2 _ e;omega
  |nm=>exact fun e=>by have:=aQ _ e;omega
  |na=>exact fun e=>by have:=aS _ e;omega
  |ot i=>exact fun e=>by have:=am i _ e;omega
  |nt i=>exact fun e=>by have:=aT i _ e;omega
  |rs i=>exact fun e=>by have:=r0 i _ e;omega
end
theorem Hk(ot nt:List Tree):cw (cN ot nt) ot nt:=by
 have g:∀(l:List Tree) (f:Tree->List Bool),(∀t,(f t).length=t.size)->∀i,i<l.length->((l.map f).getD i []).length=(l.getD i default).size:=fun l f hf i G=>by rw[getD_at (by simpa using G),getD_at G,eU,hf]
 have g2:∀(l:List Tree) (f:Tree->List (Int×Int)),(∀t,(f t).length=t.size)->∀i,i<l.length->((l.map f).getD i []).length=(l.getD i default).size:=fun l f hf i G=>by rw[getD_at (by simpa using G),getD_at G,eU,hf]
 have r:∀(n m:Nat),∀x∈aA n (-1:Int),x<(m:Int):=fun n m x hx=>by have:=List.eq_of_mem_replicate hx;omega
 refine⟨⟨by simp[cN],by simp[cN],r _ _,r _ _⟩,⟨by simp[cN],by simp[cN],r _ _,r _ _⟩,by simp[cN],by simp[cN],by simp[cN],g ot _ (by simp),g nt _ (by simp),g2 nt _ (by simp)⟩
theorem Hl{ot nt:List Tree}{s:bp}(h:cw s ot nt):cw (l5 ot nt s) ot nt:=by unfold l5;exact hX (P:=fun t=>cw t ot nt) _ _ (zX h) fun t j _ q=>zY q j
theorem Hm{budget:Int}{ot nt:List Tree}{s:bp}(h:cw s ot nt):cw (kw budget ot nt s) ot nt:=by unfold kw;exact hX (P:=fun t=>cw t ot nt) _ _ (hX (P:=fun t=>cw t ot nt) _ _ h fun t j _ q=>(zZ q j).1) fun t j _ q=>(z1 q j).1
theorem e4.turned{h:Hp}{w w1:World}{B xb so sn:Nat}{budget:Int}{V:eL->Value}{s:bp}(q:bH h w B xb so sn budget V s)(G:B<=w.heap.size)(t:Tu (dF V xb) w w1)(hx:B<=xb):Below B w w1:=
 t.jR G fun k e=>by
  rcases e with⟨r,e⟩|rfl;·exact((q.rows.own r).lt k e).1
  ·exact hx
def z6(h:Hp)(v:Value)(rs:List (List (Int×Int))):Prop:=∃R:Nat->Value,hV h v ((aw rs.length).map R)/\∀i,i<rs.length->Sl h (R i) (rs.getD i []).length 2 ((rs.getD i []).flatMap bV)
def z7(p:bp)(h:Hp)(w:World)(e:Ending)(w':World):Prop:=∃rv h',e= .returned (.agg #[rv,af ae p.cost,af ae p.a7])/\St w.heap.size h w h' w'/\z6 h' rv p.rs
def Jd(b:Nat)(e:Ending):Prop:=∃n:Nat,e= .returned (af ae n)/\n<=b
theorem Je(m:Nat)(hm:m<=1000000):∀(t:Tree) (_:t.size<=m) (h:Hp) (w:World) (_:ao h w) (v:Value) (_:aP h v t),Calls ai 85 #[v] w fun e w'=>Jd t.size e/\Below w.heap.size w w':=by
 induction m with
 |zero=>intro t hn;have:=t.size_eq;omega
 |succ m aL=>
  intro t a2 h w am v aG;have ab:=aa am;have aT:=aa (aL (by omega));have hz:=Tree.size_eq t;have aS:=aa hz;rw[hz]at a2;obtain⟨al,O,J,ck,ys,rfl,bq,bz,bv,a1,aB,he⟩:=aG.open;have aO:=aa aB;have aN:=aa he;clear aL aG hz am aB a1 he;have aj:Hid (Has (w.alloc (.cells #[af ae t.kind,ah t.text,ag al t.leads.length O,ag J t.kids.length ck] 26)) w.heap.size #[af ae t.kind,ah t.text,ag al t.leads.length O,ag J t.kids.length ck]):=Has.new _ _ _;have B0:Hid (Below w.heap.size w (w.alloc (.cells #[af ae t.kind,ah t.text,ag al t.leads.length O,ag J t.kids.length ck] 26))):=(aD _ _).alloc (kI _) _;go_in;go_wp2_with fail;go_loopw[3,4] (fun q i wr=>∃(j d:Nat),j<=t.kids.length/\i=af ae j/\q=af ae d/\d<=ax t.kids/\Has wr w.heap.size #[af ae t.kind,ah t.text,ag al t.leads.length O,ag J t.kids.length ck]/\Below w.heap.size w wr) (fun _ i _=>t.kids.length-(intOf i).toNat);case atStart=>exact⟨0,0,aW _,rfl,rfl,aW _,aj.out,B0.out⟩
  case round=>
   obtain⟨j,d,bm,rfl,rfl,hd,xb,bl⟩:=hrel;clear aj B0;obtain⟨⟨bI,bJ,bL,bN⟩,-⟩:=xb.four;have bB:=xb.lt;have aX:=aa xb;have G:=aa bl;clear xb bl;by_cases hj:j<t.kids.length
   ·obtain⟨b,off,a4,a8,a3,a5,rfl,aJ,ak⟩:=ed aO.out aN.out j hj;obtain⟨d0,a9,ba,bd⟩:=ak wr (ab.out.below G.out);have aQ:=aa aJ;have bE:(0:Int)<=(j:Int):=by omega
    have bG:(j:Int)<(t.kids.length:Int):=by omega
    have bp:=dB (List.getElem_mem hj);have aZ:=aa (show t.kids[j].size<=m by omega);clear aJ ak;go_wp2_with fail;refine(aT.out _ aZ.out h _ (ab.out.below G.out) _ aQ.out).mono ?_;rintro e bH ⟨⟨aY,rfl,bg⟩,Y⟩;have aM:=aa (G.out.trans (Y.mono G.out.size));have aV:=aa (aX.out.below Y);clear Y;go_wp2_with fail
    all_goals
     go_roundw;case rel=>exact⟨j+1,max d aY,by omega,by go_num,by go_num,by omega,aV.out,aM.out⟩
     case measure=>simp[intOf];omega
   ·have bC:ae.wrap ((d:Int)+1)=((d+1:Nat):Int):=by rw[bA (by omega)];omega
    go_wp2_with fail;go_ret;exact⟨⟨d+1,rfl,by rw[aS.out];omega⟩,G.out⟩
theorem Ba(t:Tree)(aL:t.kids=[]/\t.text.size<=1000\/dw t)(G:t.lb)(h:Hp)(w:World)(aJ:ao h w)(v:Value)(aj:aP h v t):Calls ai 83 #[v] w fun e w'=>se t e/\Below w.heap.size w w':=by
 have am:=aa aJ;have aO:=aa aL;have aM:=aa G;obtain⟨al,ab,Y,ck,ys,rfl,aT,aX,aV,aQ,aS,he⟩:=aj.open;have ax:=aa aj;clear aJ aL G aQ aS he aj;have aB:Hid (Has (w.alloc (.cells #[af ae t.kind,ah t.text,ag al t.leads.length ab,ag Y t.kids.length ck] 26)) w.heap.size #[af ae t.kind,ah t.text,ag al t.leads.length ab,ag Y t.kids.length ck]):=Has.new _ _ _;have B0:Hid (Below w.heap.size w (w.alloc (.cells #[af ae t.kind,ah t.text,ag al t.leads.length ab,ag Y t.kids.length ck] 26))):=(aD _ _).alloc (kI _) _;go_in;go_wp2_with fail;refine(AJ _ t (kI _) aO.out h _ (am.out.alloc _) _ ax.out).mono ?_;rintro e w2 ⟨⟨b,rfl,G⟩,b2⟩;have aN:=aa G;have J:=aa (B0.out.trans (b2.mono B0.out.size));have O:=aB.out.below b2;obtain⟨⟨aZ,a1,a2,a3⟩,-⟩:=O.four;have aY:=O.lt;clear b2 aB B0 O G;cases b;·go_wp2_with fail;go_ret;exact⟨ng _,J.out⟩
 ·go_wp2_with fail;refine(Jc _ t (kI _) aM.out h _ (am.out.below J.out) _ ax.out).mono ?_;rintro e w3 ⟨⟨b3,rfl⟩,aG⟩;have ak:=aa (J.out.trans (aG.mono J.out.size));clear aG;cases b3;·go_wp2_with fail;go_ret;exact⟨ng _,ak.out⟩
  ·go_wp2_with fail;go_ret;exact⟨⟨true,rfl,fun _=>aN.out (by trivial)⟩,ak.out⟩
end Go.Proofs.YtdplggpbgommnaaGreatDoor
