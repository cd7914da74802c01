/- The parser: operators; an expression of two numbers. -/
import Derived.Test.YtdplggpbgommnaaGreatDoorG18
open Bool renaming eq_iff_iff->pg,false_and->oD,true_and->sQ
open Go renaming heap_alloc_new->gL
open Go.Act renaming put->br
open Go.ByteArray renaming toList_eq->eT
open Go.IntKind renaming i64->ae
open Go.Lib renaming hid->aa
open Go.Obj renaming cells->au
open Go.Proofs.Tryz renaming prog->ai
open Go.RowKit.Below renaming heap_alloc->fp,heap_setCell->cH,refl->aD
open Go.Value renaming agg->aq,bool->ay,int->af,slice->ag,string->ah
open Go.Value.agg renaming injEq->oG
open Go.World renaming cell?_of_block->dc,setCell->ef
open List renaming drop_eq_getElem_cons->jh,drop_of_length_le->oz,getElem?_cons_succ->bQ,getElem?_cons_zero->bc,getElem?_toArray->bw,getElem_cons_succ->dV,getElem_cons_zero->dJ,getElem_mem->aK,getElem_toArray->eV,length_cons->bF,length_nil->cL,setIfInBounds_toArray->bh,set_cons_succ->bf,set_cons_zero->nu
open Nat renaming le_of_lt->kB,le_refl->kI,ne_of_gt->sP,zero_le->aW
open Option.some renaming inj->aU
set_option maxRecDepth 100000
set_option maxHeartbeats 32000000
namespace Go.Proofs.YtdplggpbgommnaaGreatDoor
open Go.RowKit
def zn:List (List UInt8):=[[43],[45],[42],[60],[61,61]]
def mV(s:ByteArray):Bool:=decide (s.data.toList∈zn)
theorem uP(w:World)(s:ByteArray):Calls ai 137 #[ah s] w fun e w'=>e= .returned (ay (mV s))/\w=w':=by
 go_in;go_wp2_with fail;all_goals go_ret
 all_goals exact⟨by simp_all[mV,zn,eT],rfl⟩
structure lm(s:ByteArray):Prop where
 n1:(s.toList==[116,114,117,101])=false
 n2:(s.toList==[102,97,108,115,101])=false
 n3:(s.toList==[63])=false
 n4:(s.toList==[91])=false
 n5:(s.toList==[40])=false
 n6:(s.toList==[108,101,116])=false
 n7:(s.toList==[105,102])=false
theorem bB.aM{p:Nat}{h h1:Hp}{w w1:World}(s:bB p h w h1 w1){b:Nat}(G:w.heap.size<=b)(hn:h1 b=none)(v0 J O Y:Value):bB p h w h1 ((((w1.setCell ⟨b,0,none⟩ v0).setCell ⟨b,1,none⟩ J).setCell ⟨b,2,none⟩ O).setCell ⟨b,3,none⟩ Y):=
 (((s.set (q:=⟨b,0,none⟩) (.inl G) hn v0).set (q:=⟨b,1,none⟩) (.inl G) hn J).set (q:=⟨b,2,none⟩) (.inl G) hn O).set (q:=⟨b,3,none⟩) (.inl G) hn Y
theorem bJ.aM{p:Nat}{h:Hp}{w:World}{ts:List cU}(q:bJ h w p ts){b:Nat}(G:b≠p)(v0 J O Y:Value):bJ h ((((w.setCell ⟨b,0,none⟩ v0).setCell ⟨b,1,none⟩ J).setCell ⟨b,2,none⟩ O).setCell ⟨b,3,none⟩ Y) p ts:=
 (((q.set (a:=⟨b,0,none⟩) G v0).set (a:=⟨b,1,none⟩) G J).set (a:=⟨b,2,none⟩) G O).set (a:=⟨b,3,none⟩) G Y
theorem Has.mW{w:World}{b:Nat}{a0 Y ab aj:Value}(x:Has w b #[a0,Y,ab,aj])(v0 G J O:Value):Has ((((w.setCell ⟨b,0,none⟩ v0).setCell ⟨b,1,none⟩ G).setCell ⟨b,2,none⟩ J).setCell ⟨b,3,none⟩ O) b #[v0,G,J,O]:=
 (((x.hU 0 (by simp) v0).hU 1 (by simp) G).hU 2 (by simp) J).hU 3 (by simp) O
theorem Has.o4{w:World}{b g:Nat}{c:Array Value}(x:Has w b c)(G:g≠b)(v0 J O Y:Value):Has ((((w.setCell ⟨g,0,none⟩ v0).setCell ⟨g,1,none⟩ J).setCell ⟨g,2,none⟩ O).setCell ⟨g,3,none⟩ Y) b c:=
 (((x.ne G 0 v0).ne G 1 J).ne G 2 O).ne G 3 Y
theorem Has.jU{w:World}{b:Nat}{v0 G J O:Value}(x:Has w b #[v0,G,J,O]):w.cell? ⟨b,0,none⟩=some v0/\w.cell? ⟨b,1,none⟩=some G/\w.cell? ⟨b,2,none⟩=some J/\w.cell? ⟨b,3,none⟩=some O:=⟨x.cl 0,x.cl 1,x.cl 2,x.cl 3⟩
theorem uQ{p bl bk:Nat}{h h7:Hp}{w W:World}{ts:List cU}{text lead:ByteArray}{aL aM:Tree}{G J O Y ab aj ak am:Value}(S:bB p h w h7 W)(Q:bJ h7 W p ts)(aV:aP h7 (aq #[G,J,O,Y]) aL)(aX:aP h7 (aq #[ab,aj,ak,am]) aM)(a1:bi W bl=some #[ah lead])(aZ:bi W bk=some #[G,J,O,Y,ab,aj,ak,am])(aY:w.heap.size<=bl)(gk:w.heap.size<=bk)(a4:bl≠p)(a3:bk≠p)(aB:h7 bl=none)(a2:h7 bk=none)(aT:bk≠bl):∃ao,bB p h w ao W/\bJ ao W p ts/\aP ao (aq #[af ae 21,ah text,ag (some ⟨bl,0,none⟩) 1 1,ag (some ⟨bk,0,none⟩) 2 2]) (.node 21 text [lead] [aL,aM])/\∀b,b≠bl->b≠bk->ao b=h7 b:=by
 have ax:(h7.add bl #[ah lead]) bk=none:=by unfold Hp.add;rw[if_neg aT];exact a2
 have aQ:h7.le (h7.add bl #[ah lead]):=Hp.eG _ aB;have aS:(h7.add bl #[ah lead]).le ((h7.add bl #[ah lead]).add bk #[G,J,O,Y,ab,aj,ak,am]):=Hp.eG _ ax
 have aN:∀{a b c d:Value} {t:Tree},aP h7 (aq #[a,b,c,d]) t->bg h7 t [a,b,c,d]:=fun{a b c d t} ⟨cs,e,i⟩=>by
  have:cs=[a,b,c,d]:=by simp only[oG]at e;have:=congrArg Array.toList e;simpa using this.symm
  rw[this]at i;exact i
 refine⟨_,(S.add aY aB a1).add gk ax aZ,(Q.add _ a4 aB).add _ a3 ax,?_,fun b h1 h2=>by unfold Hp.add;rw[if_neg h2,if_neg h1]⟩;refine⟨_,rfl,?_⟩;rw[bg];refine⟨_,_,_,_,[G,J,O,Y,ab,aj,ak,am],rfl,by unfold aG;omega,⟨_,_,rfl,by simp,rfl,.inr ⟨bl,0,#[ah lead],rfl,by unfold Hp.add;rw[if_neg (fun e=>aT e.symm),if_pos rfl],fun i aO=> ?_⟩⟩,⟨_,_,rfl,by simp,rfl,.inr ⟨bk,0,#[G,J,O,Y,ab,aj,ak,am],rfl,by unfold Hp.add;rw[if_pos rfl],fun i aO=>by simp⟩⟩,?_⟩
 ·have:i=0:=by simp at aO;omega
  subst this;rfl
 ·rw[eH.iff];exact(aJ.one ((aN aV).mono (Hp.le_trans aQ aS))).append (aJ.one ((aN aX).mono (Hp.le_trans aQ aS)))
theorem zo{h:Hp}{v:Value}{s l:ByteArray}(T:aP h v (.node 10 s [l] [])):∃al J G ck,v=aq #[af ae 10,ah s,ag al 1 J,ag G 0 ck]:=by obtain⟨_,_,_,_,_,e,_⟩:=T.open;exact⟨_,_,_,_,e⟩
def rQ(w:World)(p:Nat):Nat:=match w.cell? ⟨p,0,none⟩with|some (ag _ n _)=>n|_=>0
theorem bJ.left{h:Hp}{w:World}{p:Nat}{ts:List cU}(q:bJ h w p ts):rQ w p=ts.length:=by obtain⟨a,c,off,sz,G,x,_⟩:=q.row;unfold rQ;rw[x.cl 0];rfl
theorem Gv(h:Hp)(w:World)(dm:ao h w)(p:Nat)(Y G ab:cU)(q:bJ h w p [Y,G,ab])(k1:Y.kind=5)(bg:lm Y.text)(d8:mV G.text=true)(k3:ab.kind=5)(aV:lm ab.text):Calls ai 134 #[.pointer (some ⟨p,0,none⟩)] w fun e w'=>∃v,e= .returned v/\∃h',bB p h w h' w'/\bJ h' w' p []/\aP h' v (.node 21 G.text [G.lead] [.node 10 Y.text [Y.lead] [],.node 10 ab.text [ab.lead] []]):=by
 have bz:=aa dm;have Q:=aa q;have ce:w.heap.size≠p:=by have:=q.lt;omega
 have ek:=nX;have ez:=bg.n6;have eA:=bg.n7;clear dm q;go_in;go_wp2_with fail;refine(mU h _ (bz.out.alloc _) p Y [G,ab] (Q.out.alloc _)).mono ?_;rintro e w1 ⟨rfl,O⟩;have cZ:Hid (Has w1 w.heap.size #[af ae 0,ah ⟨#[]⟩,ag none 0 0,ag none 0 0]):=(Has.new _ _ _).below O;have dw:=aa ((bz.out.alloc (au #[af ae 0,ah ⟨#[]⟩,ag none 0 0,ag none 0 0] 26)).below O);have dG:=aa ((Q.out.alloc (au #[af ae 0,ah ⟨#[]⟩,ag none 0 0,ag none 0 0] 26)).below O);have dP:Hid (bB p h w h w1):=((bB.refl bz.out).alloc _).call (bB.below (bz.out.alloc _) O);clear O;go_wp2_with fail;refine(uO h _ dw.out p Y [G,ab] dG.out k1 bg.n1 bg.n2 bg.n3 bg.n4 bg.n5).mono ?_;rintro e w2 ⟨v,rfl,h2,co,dn,cu⟩;obtain⟨ak,ax,aj,am,rfl⟩:∃al ba a9 ck,v=aq #[af ae 10,ah Y.text,ag al 1 ba,ag a9 0 ck]:=by obtain⟨_,_,_,_,_,e,_⟩:=cu.open;exact⟨_,_,_,_,e⟩
 have c6:=aa (cZ.out.gW co ce);have cN:Hid (h2 w.heap.size=none):=(co.aI _ cZ.out.lt).trans (bI bz.out _ (kI _));have cS:=aa (dP.out.call co);have cQ:=aa dn;have cG:=aa cu;clear co dn cu;go_wp2_with fail;have ci:=aa (cS.out.alloc (au #[af ae 10,ah Y.text,ag ak 1 ax,ag aj 0 am] 26));have ch:=aa (cQ.out.alloc (au #[af ae 10,ah Y.text,ag ak 1 ax,ag aj 0 am] 26));have c8:=aa (c6.out.alloc (au #[af ae 10,ah Y.text,ag ak 1 ax,ag aj 0 am] 26));have dh:=aa (Has.new w2 #[af ae 10,ah Y.text,ag ak 1 ax,ag aj 0 am] 26);have cM:=aa (bI cS.out.I _ (kI _));have bv:Hid (w.heap.size<w2.heap.size):=c6.out.lt;have a3:Hid (w2.heap.size≠p):=by unfold Hid;have:=cQ.out.lt;omega
 generalize d1:w2.alloc (au #[af ae 10,ah Y.text,ag ak 1 ax,ag aj 0 am] 26)=w3 at*;clear d1;go_loopw[] (fun wr=>wr=w3\/∃(aT:Hp) (al ba a9 ck:_),bB p h w aT wr/\bJ aT wr p []/\Has wr w2.heap.size #[af ae 21,ah G.text,ag al 1 ba,ag a9 2 ck]/\aP aT (aq #[af ae 21,ah G.text,ag al 1 ba,ag a9 2 ck]) (.node 21 G.text [G.lead] [.node 10 Y.text [Y.lead] [],.node 10 ab.text [ab.lead] []])/\Has wr w.heap.size #[af ae 0,ah ⟨#[]⟩,ag none 0 0,ag none 0 0]/\aT w.heap.size=none) (fun wr=>rQ wr p);case atStart=>exact .inl rfl
 case round=>
  rcases hrel with rfl|⟨aT,al,ba,a9,ck,bp,bA,bH,cY,bG,dE⟩
  ·have ct:=aa ch.out.left;go_wp2_with fail;refine(mU h2 _ ci.out.I p G [ab] ch.out).mono ?_;rintro e eC ⟨rfl,O⟩;have bp:=aa (ci.out.call (bB.below ci.out.I O));have bA:=aa (ch.out.below O);have bG:=aa (c8.out.below O);have bH:=aa (dh.out.below O);clear O;go_wp2_with fail;refine(uP _ G.text).mono ?_;rintro e bd ⟨rfl,rfl⟩;rw[d8];go_wp2_with fail;refine(qg h2 _ bp.out.I p G [ab] bA.out).mono ?_;rintro e bd ⟨rfl,cq,dp⟩;have bq:=aa (bp.out.call cq);have bm:=aa dp;have cm:=aa (bG.out.gW cq ce);have bL:=aa (bH.out.gW cq a3.out);clear cq dp;go_wp2_with fail;have bE:=aa (bq.out.alloc (au #[af ae G.kind,ah G.lead,ah G.text] 95));have bC:=aa (bm.out.alloc (au #[af ae G.kind,ah G.lead,ah G.text] 95));have aJ:=aa (cm.out.alloc (au #[af ae G.kind,ah G.lead,ah G.text] 95));have aS:=aa (bL.out.alloc (au #[af ae G.kind,ah G.lead,ah G.text] 95));have bN:=aa (Has.new bd #[af ae G.kind,ah G.lead,ah G.text] 95);have dr:Hid (bd.heap.size≠p):=by unfold Hid;have:=bm.out.lt;omega
   generalize bd.alloc (au #[af ae G.kind,ah G.lead,ah G.text] 95)=aG at*;have dF:Hid (w2.heap.size≠bd.heap.size):=by unfold Hid;have:=bL.out.lt;omega
   generalize bd.heap.size=a1 at*;have ea:=aS.out.cl 0;have eb:=aS.out.cl 1;have ec:=aS.out.cl 2;have ed:=aS.out.cl 3;have ei:=bN.out.cl 1;have ej:=bN.out.cl 2;have ey:=aS.out.lt;have l2:=bN.out.lt;simp only[bw,bc,bQ]at ea eb ec ed ei ej;have el:=aV;clear bq bm cm bL bp bA bG bH ci ch c8 dh;have cV:=aa (bE.out.alloc (au #[ah G.lead] 9)).drew;have dN:=aa (bC.out.alloc (au #[ah G.lead] 9)).drew;have c9:=aa (aJ.out.alloc (au #[ah G.lead] 9)).drew;have di:=aa (aS.out.alloc (au #[ah G.lead] 9)).drew;have dR:=aa (bN.out.alloc (au #[ah G.lead] 9)).drew;have dB:Hid (bi (aG.alloc (au #[ah G.lead] 9)).drew aG.heap.size=some #[ah G.lead]):=by unfold Hid;show bi (aG.alloc _) _=_;unfold bi;rw[gL]
   have dD:Hid (h2 aG.heap.size=none):=bI bE.out.I _ (kI _);have cX:=aa bE.out.drew;have dO:=aa bC.out.drew;have dg:=aa aJ.out.drew;have dk:=aa aS.out.drew;have dT:=aa bN.out.drew;have dt:Hid (aG.heap.size≠p):=by unfold Hid;have:=bC.out.lt;omega
   have d7:w2.heap.size≠a1:=dF.out;have eB:a1≠w2.heap.size:=fun e=>d7 e.symm;refine wp_region_noPanic ?_;refine nE (n:=10) (S:=(fun w'=>w'.cell? ⟨w2.heap.size,0,none⟩=some (af ae 10)/\w'.cell? ⟨w2.heap.size,1,none⟩=some (ah Y.text)/\w'.cell? ⟨w2.heap.size,2,none⟩=some (ag ak 1 ax)/\w'.cell? ⟨w2.heap.size,3,none⟩=some (ag aj 0 am)/\w'.cell? ⟨a1,1,none⟩=some (ah G.lead)/\w'.cell? ⟨a1,2,none⟩=some (ah G.text))) (by kernel_rfl) ?_ (fun er=> ?_);·go_keep
   simp only[Array.replicate,List.replicate,List.size_toArray,bF,cL,Nat.zero_add,Nat.reduceAdd]
   iterate 4
    refine iL (v:= ?_) 0 rfl (by kernel_rfl) (fun _ _ _ h=>h) (by rfl) (by assumption) ?_ ?_
    rotate_left
    ·intro w a2;(try dsimp only at a2);simp only[nx];go_simp<;>with_reducible rfl
    simp only[nx,br,eV,dV,dJ,bh,nu,bf]
   iterate 2
    refine iL (v:= ?_) 5 rfl (by kernel_rfl) (fun _ _ _ h=>h) (by rfl) (by assumption) ?_ ?_
    rotate_left
    ·intro w a2;(try dsimp only at a2);simp only[nx];go_simp<;>with_reducible rfl
    simp only[nx,br,eV,dV,dJ,bh,nu,bf]
   refine cE (rs:=[4,7]) (by kernel_rfl) (by simp) ?_;refine aZ.cons (o:=_) rfl (fun K hK=> ?_) ?_
   ·go_simp;refine hK.out _ _ (fun _=> ?_) ?_;·go_keep
    clear hK K;try simp only[bh,nu,bf]
    refine cE (rs:=[7]) (by kernel_rfl) (by simp) ?_;refine aZ.cons (o:=_) rfl (fun K hK=> ?_) aZ.nil;go_simp;go_at_call 180;refine(uO h2 _ (by exact cV.out.I) p ab [] (by exact dN.out) k3 aV.n1 aV.n2 aV.n3 aV.n4 aV.n5).mono ?_;rintro e J ⟨d9,rfl,h7,aB,bX,a4⟩;obtain⟨aM,aO,aL,aN,rfl⟩:=zo a4;have aY:=aa (cV.out.call aB);have aX:=aa bX;have a5:=aa (c9.out.gW aB ce);have aQ:=aa (di.out.gW aB a3.out);have a8:=aa (dR.out.gW aB dr.out);have dA:Hid (bi J aG.heap.size=some #[ah G.lead]):=(oO (aB.gr.block _ (by simp) (fun e=>dt.out (aU e)))).trans dB.out;have dC:Hid (h7 aG.heap.size=none):=(aB.aI _ (by simp)).trans dD.out;have cK:Hid (aG.heap.size<J.heap.size):=by unfold Hid;have:=aB.size;simp at this;omega
    have cl:=aa a4;have cj:=aa (cG.out.mono aB.le);have cg:Hid (h7 w.heap.size=none):=(aB.aI _ c9.out.lt).trans cN.out;have cf:Hid (h7 w2.heap.size=none):=(aB.aI _ di.out.lt).trans cM.out;obtain⟨cv,cw,cz,cA⟩:=aQ.out.jU;have g0:=aQ.out.fz 0;have g1:=aQ.out.fz 1;have g2:=aQ.out.fz 2;have dZ:=aQ.out.fz 3;have cB:J.cell? ⟨a1,1,none⟩=some (ah G.lead):=a8.out.cl 1;have cC:J.cell? ⟨a1,2,none⟩=some (ah G.text):=a8.out.cl 2;have d2:=aQ.out.lt;have d3:=a8.out.lt;have d4:w2.heap.size<J.heap.size+1:=by omega
    have d5:a1<J.heap.size+1:=by omega
    clear aB bX a4;refine hK.out _ _ (fun _=> ?_) ?_;·exact⟨cv,cw,cz,cA,cB,cC⟩
    clear hK K;try simp only[bh,nu,bf]
    refine cE (rs:=[8]) (by kernel_rfl) (by simp) ?_;refine aZ.cons (o:=_) rfl (fun K hK=> ?_) aZ.nil;go_simp;refine hK.out _ _ (fun _=> ?_) ?_;·go_keep
    clear hK K;try simp only[bh,nu,bf]
    refine iL (v:= ?_) 9 rfl (by kernel_rfl) (fun _ _ _ h=>h) (by rfl) (by go_keep) ?_ ?_
    rotate_left
    ·intro w a2;(try dsimp only at a2);simp only[nx];go_simp<;>with_reducible rfl
    simp only[nx,br,eV,dV,dJ,bh,nu,bf];refine cE (rs:=[10]) (by kernel_rfl) (by simp) ?_;refine aZ.cons (o:=_) rfl (fun K hK=> ?_) aZ.nil;go_simp;refine hK.out _ _ (fun h=>absurd h (by decide)) ?_;clear hK K;try simp only[bh,nu,bf]
    refine lK (by kernel_rfl) ?_ _;simp only[NoPanic];go_wp2_with fail;go_roundw
    case rel=>
     have hz:(((((J.setCell ⟨w2.heap.size,0,none⟩ (af ae 21)).setCell ⟨w2.heap.size,1,none⟩ (ah G.text)).setCell ⟨w2.heap.size,2,none⟩ (ag (some ⟨aG.heap.size,0,none⟩) 1 1)).setCell ⟨w2.heap.size,3,none⟩ (ag (some ⟨J.heap.size,0,none⟩) 2 2))).heap.size=J.heap.size:=by simp[ef]
     have cD:∀b,b≠w2.heap.size->bi (((((J.setCell ⟨w2.heap.size,0,none⟩ (af ae 21)).setCell ⟨w2.heap.size,1,none⟩ (ah G.text)).setCell ⟨w2.heap.size,2,none⟩ (ag (some ⟨aG.heap.size,0,none⟩) 1 1)).setCell ⟨w2.heap.size,3,none⟩ (ag (some ⟨J.heap.size,0,none⟩) 2 2))) b=bi J b:=fun b O=>by unfold bi;rw[cH _ _ _ _ O,cH _ _ _ _ O,cH _ _ _ _ O,cH _ _ _ _ O]
     have b0:=aY.out.aM (kB bv.out) cf.out (af ae 21) (ah G.text) (ag (some ⟨aG.heap.size,0,none⟩) 1 1) (ag (some ⟨J.heap.size,0,none⟩) 2 2);have bY:=aX.out.aM a3.out (af ae 21) (ah G.text) (ag (some ⟨aG.heap.size,0,none⟩) 1 1) (ag (some ⟨J.heap.size,0,none⟩) 2 2);have cd:=aQ.out.mW (af ae 21) (ah G.text) (ag (some ⟨aG.heap.size,0,none⟩) 1 1) (ag (some ⟨J.heap.size,0,none⟩) 2 2);have cc:=a5.out.o4 (sP bv.out) (af ae 21) (ah G.text) (ag (some ⟨aG.heap.size,0,none⟩) 1 1) (ag (some ⟨J.heap.size,0,none⟩) 2 2);have du:w.heap.size<J.heap.size:=a5.out.lt;have dv:=aJ.out.lt;have cF:=aX.out.lt;have bS:h7 J.heap.size=none:=bI aY.out.I _ (kI _);have cn:h7 (J.heap.size+1)=none:=bI aY.out.I _ (by omega);generalize((((J.setCell ⟨w2.heap.size,0,none⟩ (af ae 21)).setCell ⟨w2.heap.size,1,none⟩ (ah G.text)).setCell ⟨w2.heap.size,2,none⟩ (ag (some ⟨aG.heap.size,0,none⟩) 1 1)).setCell ⟨w2.heap.size,3,none⟩ (ag (some ⟨J.heap.size,0,none⟩) 2 2))=W at*;obtain⟨aT,bZ,bV,b9,bT⟩:=uQ (text:=G.text) (bl:=aG.heap.size) (bk:=J.heap.size) (b0.alloc (au #[af ae 10,ah Y.text,ag ak 1 ax,ag aj 0 am,af ae 10,ah ab.text,ag aM 1 aO,ag aL 0 aN] 26)) (bY.alloc (au #[af ae 10,ah Y.text,ag ak 1 ax,ag aj 0 am,af ae 10,ah ab.text,ag aM 1 aO,ag aL 0 aN] 26)) cj.out cl.out (by exact(oO (fp _ _ _ (by rw[hz];exact cK.out))).trans ((cD _ (by have:=aS.out.lt;omega)).trans dA.out)) (by rw[<-hz];unfold bi;rw[gL]) (by have:=aJ.out.lt;omega) (by omega) (by exact dt.out) (by omega) (by exact dC.out) (by exact bS) (by have:=cK.out;omega);exact .inr ⟨aT,_,_,_,_,bZ,bV,(cd.alloc (au #[af ae 10,ah Y.text,ag ak 1 ax,ag aj 0 am,af ae 10,ah ab.text,ag aM 1 aO,ag aL 0 aN] 26)),b9,(cc.alloc (au #[af ae 10,ah Y.text,ag ak 1 ax,ag aj 0 am,af ae 10,ah ab.text,ag aM 1 aO,ag aL 0 aN] 26)),(bT _ (by omega) (by omega)).trans cg.out⟩
    case measure=>have bR:=((aX.out.aM a3.out (af ae 21) (ah G.text) (ag (some ⟨aG.heap.size,0,none⟩) 1 1) (ag (some ⟨J.heap.size,0,none⟩) 2 2)).alloc (au #[af ae 10,ah Y.text,ag ak 1 ax,ag aj 0 am,af ae 10,ah ab.text,ag aM 1 aO,ag aL 0 aN] 26)).left;have bO:=ct.out;simp only[cL,bF]at bR bO;omega
   refine aZ.cons (o:=_) rfl (fun K hK=> ?_) aZ.nil;go_simp;go_at_call 180;refine(uO h2 _ (by exact cX.out.I) p ab [] (by exact dO.out) k3 aV.n1 aV.n2 aV.n3 aV.n4 aV.n5).mono ?_;rintro e J ⟨d9,rfl,h7,aB,bX,a4⟩;obtain⟨aM,aO,aL,aN,rfl⟩:=zo a4;have aY:=aa (cX.out.call aB);have aX:=aa bX;have a5:=aa (dg.out.gW aB ce);have aQ:=aa (dk.out.gW aB a3.out);have a8:=aa (dT.out.gW aB dr.out);have cl:=aa a4;have cj:=aa (cG.out.mono aB.le);have cg:Hid (h7 w.heap.size=none):=(aB.aI _ dg.out.lt).trans cN.out;have cf:Hid (h7 w2.heap.size=none):=(aB.aI _ dk.out.lt).trans cM.out;obtain⟨cv,cw,cz,cA⟩:=aQ.out.jU;have g0:=aQ.out.fz 0;have g1:=aQ.out.fz 1;have g2:=aQ.out.fz 2;have dZ:=aQ.out.fz 3;have cB:J.cell? ⟨a1,1,none⟩=some (ah G.lead):=a8.out.cl 1;have cC:J.cell? ⟨a1,2,none⟩=some (ah G.text):=a8.out.cl 2;have d2:=aQ.out.lt;have d3:=a8.out.lt;have d4:w2.heap.size<J.heap.size+1:=by omega
   have d5:a1<J.heap.size+1:=by omega
   clear aB bX a4;refine hK.out _ _ (fun _=> ?_) ?_;·exact⟨cv,cw,cz,cA,cB,cC⟩
   clear hK K;try simp only[bh,nu,bf]
   refine cE (rs:=[4,8]) (by kernel_rfl) (by simp) ?_;refine aZ.cons (o:=_) rfl (fun K hK=> ?_) ?_
   ·go_simp;refine hK.out _ _ (fun _=> ?_) ?_;·go_keep
    clear hK K;try simp only[bh,nu,bf]
    refine cE (rs:=[8]) (by kernel_rfl) (by simp) ?_;refine aZ.cons (o:=_) rfl (fun K hK=> ?_) aZ.nil;go_simp;refine hK.out _ _ (fun _=> ?_) ?_;·go_keep
    clear hK K;try simp only[bh,nu,bf]
    refine iL (v:= ?_) 9 rfl (by kernel_rfl) (fun _ _ _ h=>h) (by rfl) (by go_keep) ?_ ?_
    rotate_left
    ·intro w a2;(try dsimp only at a2);simp only[nx];go_simp<;>with_reducible rfl
    simp only[nx,br,eV,dV,dJ,bh,nu,bf];refine cE (rs:=[10]) (by kernel_rfl) (by simp) ?_;refine aZ.cons (o:=_) rfl (fun K hK=> ?_) aZ.nil;go_simp;refine hK.out _ _ (fun h=>absurd h (by decide)) ?_;clear hK K;try simp only[bh,nu,bf]
    refine lK (by kernel_rfl) ?_ _;simp only[NoPanic];go_wp2_with fail;go_roundw
    case rel=>
     have hz:(((((J.setCell ⟨w2.heap.size,0,none⟩ (af ae 21)).setCell ⟨w2.heap.size,1,none⟩ (ah G.text)).setCell ⟨w2.heap.size,2,none⟩ (ag (some ⟨J.heap.size,0,none⟩) 1 1)).setCell ⟨w2.heap.size,3,none⟩ (ag (some ⟨(J.heap.size+1),0,none⟩) 2 2))).heap.size=J.heap.size:=by simp[ef]
     have cD:∀b,b≠w2.heap.size->bi (((((J.setCell ⟨w2.heap.size,0,none⟩ (af ae 21)).setCell ⟨w2.heap.size,1,none⟩ (ah G.text)).setCell ⟨w2.heap.size,2,none⟩ (ag (some ⟨J.heap.size,0,none⟩) 1 1)).setCell ⟨w2.heap.size,3,none⟩ (ag (some ⟨(J.heap.size+1),0,none⟩) 2 2))) b=bi J b:=fun b O=>by unfold bi;rw[cH _ _ _ _ O,cH _ _ _ _ O,cH _ _ _ _ O,cH _ _ _ _ O]
     have b0:=aY.out.aM (kB bv.out) cf.out (af ae 21) (ah G.text) (ag (some ⟨J.heap.size,0,none⟩) 1 1) (ag (some ⟨(J.heap.size+1),0,none⟩) 2 2);have bY:=aX.out.aM a3.out (af ae 21) (ah G.text) (ag (some ⟨J.heap.size,0,none⟩) 1 1) (ag (some ⟨(J.heap.size+1),0,none⟩) 2 2);have cd:=aQ.out.mW (af ae 21) (ah G.text) (ag (some ⟨J.heap.size,0,none⟩) 1 1) (ag (some ⟨(J.heap.size+1),0,none⟩) 2 2);have cc:=a5.out.o4 (sP bv.out) (af ae 21) (ah G.text) (ag (some ⟨J.heap.size,0,none⟩) 1 1) (ag (some ⟨(J.heap.size+1),0,none⟩) 2 2);have du:w.heap.size<J.heap.size:=a5.out.lt;have dv:=aJ.out.lt;have cF:=aX.out.lt;have bS:h7 J.heap.size=none:=bI aY.out.I _ (kI _);have cn:h7 (J.heap.size+1)=none:=bI aY.out.I _ (by omega);generalize((((J.setCell ⟨w2.heap.size,0,none⟩ (af ae 21)).setCell ⟨w2.heap.size,1,none⟩ (ah G.text)).setCell ⟨w2.heap.size,2,none⟩ (ag (some ⟨J.heap.size,0,none⟩) 1 1)).setCell ⟨w2.heap.size,3,none⟩ (ag (some ⟨(J.heap.size+1),0,none⟩) 2 2))=W at*;obtain⟨aT,bZ,bV,b9,bT⟩:=uQ (text:=G.text) (bl:=J.heap.size) (bk:=(J.heap.size+1)) ((b0.alloc (au #[ah G.lead] 9)).alloc (au #[af ae 10,ah Y.text,ag ak 1 ax,ag aj 0 am,af ae 10,ah ab.text,ag aM 1 aO,ag aL 0 aN] 26)) ((bY.alloc (au #[ah G.lead] 9)).alloc (au #[af ae 10,ah Y.text,ag ak 1 ax,ag aj 0 am,af ae 10,ah ab.text,ag aM 1 aO,ag aL 0 aN] 26)) cj.out cl.out (by rw[oO (fp _ _ _ (by simp[hz])),<-hz];unfold bi;rw[gL]) (by rw[show J.heap.size+1=(W.alloc (au #[ah G.lead] 9)).heap.size by simp[hz]];unfold bi;rw[gL]) (by omega) (by omega) (by omega) (by omega) (by exact bS) (by exact cn) (by omega);exact .inr ⟨aT,_,_,_,_,bZ,bV,((cd.alloc (au #[ah G.lead] 9)).alloc (au #[af ae 10,ah Y.text,ag ak 1 ax,ag aj 0 am,af ae 10,ah ab.text,ag aM 1 aO,ag aL 0 aN] 26)),b9,((cc.alloc (au #[ah G.lead] 9)).alloc (au #[af ae 10,ah Y.text,ag ak 1 ax,ag aj 0 am,af ae 10,ah ab.text,ag aM 1 aO,ag aL 0 aN] 26)),(bT _ (by omega) (by omega)).trans cg.out⟩
    case measure=>have bR:=(((aX.out.aM a3.out (af ae 21) (ah G.text) (ag (some ⟨J.heap.size,0,none⟩) 1 1) (ag (some ⟨J.heap.size+1,0,none⟩) 2 2)).alloc (au #[ah G.lead] 9)).alloc (au #[af ae 10,ah Y.text,ag ak 1 ax,ag aj 0 am,af ae 10,ah ab.text,ag aM 1 aO,ag aL 0 aN] 26)).left;have bO:=ct.out;simp only[cL,bF]at bR bO;omega
   refine aZ.cons (o:=_) rfl (fun K hK=> ?_) aZ.nil;go_simp;refine hK.out _ _ (fun _=> ?_) ?_;·go_keep
   clear hK K;try simp only[bh,nu,bf]
   refine cE (rs:=[4]) (by kernel_rfl) (by simp) ?_;refine aZ.cons (o:=_) rfl (fun K hK=> ?_) aZ.nil;go_simp;refine hK.out _ _ (fun _=> ?_) ?_;·go_keep
   clear hK K;try simp only[bh,nu,bf]
   refine iL (v:= ?_) 9 rfl (by kernel_rfl) (fun _ _ _ h=>h) (by rfl) (by go_keep) ?_ ?_
   rotate_left
   ·intro w a2;(try dsimp only at a2);simp only[nx];go_simp<;>with_reducible rfl
   simp only[nx,br,eV,dV,dJ,bh,nu,bf];refine cE (rs:=[10]) (by kernel_rfl) (by simp) ?_;refine aZ.cons (o:=_) rfl (fun K hK=> ?_) aZ.nil;go_simp;refine hK.out _ _ (fun h=>absurd h (by decide)) ?_;clear hK K;try simp only[bh,nu,bf]
   refine lK (by kernel_rfl) ?_ _;simp only[NoPanic];go_wp2_with fail;go_roundw
   case rel=>
    have hz:(((((J.setCell ⟨w2.heap.size,0,none⟩ (af ae 21)).setCell ⟨w2.heap.size,1,none⟩ (ah G.text)).setCell ⟨w2.heap.size,2,none⟩ (ag (some ⟨(J.heap.size+1),0,none⟩) 1 1)).setCell ⟨w2.heap.size,3,none⟩ (ag (some ⟨J.heap.size,0,none⟩) 2 2))).heap.size=J.heap.size:=by simp[ef]
    have cD:∀b,b≠w2.heap.size->bi (((((J.setCell ⟨w2.heap.size,0,none⟩ (af ae 21)).setCell ⟨w2.heap.size,1,none⟩ (ah G.text)).setCell ⟨w2.heap.size,2,none⟩ (ag (some ⟨(J.heap.size+1),0,none⟩) 1 1)).setCell ⟨w2.heap.size,3,none⟩ (ag (some ⟨J.heap.size,0,none⟩) 2 2))) b=bi J b:=fun b O=>by unfold bi;rw[cH _ _ _ _ O,cH _ _ _ _ O,cH _ _ _ _ O,cH _ _ _ _ O]
    have b0:=aY.out.aM (kB bv.out) cf.out (af ae 21) (ah G.text) (ag (some ⟨(J.heap.size+1),0,none⟩) 1 1) (ag (some ⟨J.heap.size,0,none⟩) 2 2);have bY:=aX.out.aM a3.out (af ae 21) (ah G.text) (ag (some ⟨(J.heap.size+1),0,none⟩) 1 1) (ag (some ⟨J.heap.size,0,none⟩) 2 2);have cd:=aQ.out.mW (af ae 21) (ah G.text) (ag (some ⟨(J.heap.size+1),0,none⟩) 1 1) (ag (some ⟨J.heap.size,0,none⟩) 2 2);have cc:=a5.out.o4 (sP bv.out) (af ae 21) (ah G.text) (ag (some ⟨(J.heap.size+1),0,none⟩) 1 1) (ag (some ⟨J.heap.size,0,none⟩) 2 2);have du:w.heap.size<J.heap.size:=a5.out.lt;have dv:=aJ.out.lt;have cF:=aX.out.lt;have bS:h7 J.heap.size=none:=bI aY.out.I _ (kI _);have cn:h7 (J.heap.size+1)=none:=bI aY.out.I _ (by omega);generalize((((J.setCell ⟨w2.heap.size,0,none⟩ (af ae 21)).setCell ⟨w2.heap.size,1,none⟩ (ah G.text)).setCell ⟨w2.heap.size,2,none⟩ (ag (some ⟨(J.heap.size+1),0,none⟩) 1 1)).setCell ⟨w2.heap.size,3,none⟩ (ag (some ⟨J.heap.size,0,none⟩) 2 2))=W at*;obtain⟨aT,bZ,bV,b9,bT⟩:=uQ (text:=G.text) (bl:=(J.heap.size+1)) (bk:=J.heap.size) ((b0.alloc (au #[af ae 10,ah Y.text,ag ak 1 ax,ag aj 0 am,af ae 10,ah ab.text,ag aM 1 aO,ag aL 0 aN] 26)).alloc (au #[ah G.lead] 9)) ((bY.alloc (au #[af ae 10,ah Y.text,ag ak 1 ax,ag aj 0 am,af ae 10,ah ab.text,ag aM 1 aO,ag aL 0 aN] 26)).alloc (au #[ah G.lead] 9)) cj.out cl.out (by rw[show J.heap.size+1=(W.alloc (au #[af ae 10,ah Y.text,ag ak 1 ax,ag aj 0 am,af ae 10,ah ab.text,ag aM 1 aO,ag aL 0 aN] 26)).heap.size by simp[hz]];unfold bi;rw[gL]) (by rw[oO (fp _ _ _ (by simp[hz])),<-hz];unfold bi;rw[gL]) (by omega) (by omega) (by omega) (by omega) (by exact cn) (by exact bS) (by omega);exact .inr ⟨aT,_,_,_,_,bZ,bV,((cd.alloc (au #[af ae 10,ah Y.text,ag ak 1 ax,ag aj 0 am,af ae 10,ah ab.text,ag aM 1 aO,ag aL 0 aN] 26)).alloc (au #[ah G.lead] 9)),b9,((cc.alloc (au #[af ae 10,ah Y.text,ag ak 1 ax,ag aj 0 am,af ae 10,ah ab.text,ag aM 1 aO,ag aL 0 aN] 26)).alloc (au #[ah G.lead] 9)),(bT _ (by omega) (by omega)).trans cg.out⟩
   case measure=>have bR:=(((aX.out.aM a3.out (af ae 21) (ah G.text) (ag (some ⟨J.heap.size+1,0,none⟩) 1 1) (ag (some ⟨J.heap.size,0,none⟩) 2 2)).alloc (au #[af ae 10,ah Y.text,ag ak 1 ax,ag aj 0 am,af ae 10,ah ab.text,ag aM 1 aO,ag aL 0 aN] 26)).alloc (au #[ah G.lead] 9)).left;have bO:=ct.out;simp only[cL,bF]at bR bO;omega
  ·have bm:=aa bA;have bq:=aa bp;have bL:=aa bH;have cm:=aa bG;have dQ:=aa cY;clear bA bp bH bG cY;go_wp2_with fail;refine(Gt aT _ bq.out.I p bm.out).mono ?_;rintro e bd ⟨rfl,O⟩;have bE:=aa (bq.out.call (bB.below bq.out.I O));have bC:=aa (bm.out.below O);have aJ:=aa (cm.out.below O);have aS:=aa (bL.out.below O);clear O;go_wp2_with fail;refine(uP _ _).mono ?_;rintro e aG ⟨rfl,rfl⟩;rw[show mV ⟨#[]⟩=false by decide];have dU:=aJ.out.cl 0;have c1:=aJ.out.cl 1;have c2:=aJ.out.cl 2;have c3:=aJ.out.cl 3;have em:=aJ.out.fz 0;have en:=aJ.out.fz 1;have eo:=aJ.out.fz 2;have ep:=aJ.out.fz 3;have d0:=aS.out.cl 0;have dW:=aS.out.cl 1;have dX:=aS.out.cl 2;have dY:=aS.out.cl 3;have eD:=aJ.out.lt;have cF:=aS.out.lt;simp only[bw,bc,bQ]at dU c1 c2 c3 d0 dW dX dY;go_wp2_with fail;obtain⟨d6,k1,k2,k3⟩:=(aJ.out.mW (af ae 21) (ah G.text) (ag al 1 ba) (ag a9 2 ck)).jU;refine bodyPost_ret (v:=aq #[af ae 21,ah G.text,ag al 1 ba,ag a9 2 ck]) (by simp[results,Tryz.results134,go_sem,d6,k1,k2,k3]) rfl ⟨_,rfl,aT,bE.out.aM (kI _) dE _ _ _ _,bC.out.aM ce _ _ _ _,dQ.out⟩
theorem rW:eZ ai 24 9 1 16 [ah ⟨#[]⟩]:=
 .mk' (zv:=ah ⟨#[]⟩) Tryz.underlying24 (by kernel_rfl) rfl rfl (by decide) (by decide)
theorem zR(n:Nat)(hn:n<=1000000)(W:World):(Instr.makeSlice 24 (af ae (n:Int)) (af ae (n:Int))).run ai W= .ok (ag (some ⟨W.heap.size,0,none⟩) n n) (W.alloc (.cells (madeCells #[ah ⟨#[]⟩] (n*1)) 9)):=by
 obtain⟨i,zv,O,hz,Y,J,ab⟩:=rW.lJ
 have G:(i.bytes:Int)*(n:Int)<=281474976710656:=by
  rw[J];have:((16:Nat):Int)*(n:Int)<=281474976710656:=by omega
  exact this
 have:=run_make W 24 9 i zv rW.und O hz ae ae (n:Int) (n:Int) (by omega) (by omega) G (by omega);rw[this,ab,Y];rfl
theorem zS{w:World}{g k b i:Nat}{v u:Value}(G:g≠b)(h:w.cell? ⟨b,i,none⟩=some v):(w.setCell ⟨g,k,none⟩ u).cell? ⟨b,i,none⟩=some v:=by rw[dc (a:=⟨b,i,none⟩) (cH _ _ _ _ (by exact fun e=>G e.symm))];exact h
theorem rX{w:World}{g k i:Nat}{v u:Value}(J:k≠i)(h:w.cell? ⟨g,i,none⟩=some v):(w.setCell ⟨g,k,none⟩ u).cell? ⟨g,i,none⟩=some v:=by have e:((⟨g,i,none⟩:Addr)=⟨g,k,none⟩)->False:=fun e=>J (by injection e with _ G;exact G.symm);rw[World.cell?_setCell_other _ _ _ _ (by first|exact e|exact fun q=>e q.symm)];exact h
theorem G8{h:Hp}{v:Value}{l:ByteArray}(T:aP h v (.node 5 ⟨#[]⟩ [l] [])):∃al J G ck,v=aq #[af ae 5,ah ⟨#[]⟩,ag al 1 J,ag G 0 ck]:=by obtain⟨_,_,_,_,_,e,_⟩:=T.open;exact⟨_,_,_,_,e⟩
theorem Ow.gW{p B k n:Nat}{h1 h2:Hp}{w1 w2:World}{e:TypeId}{v:Value}{xs:List Value}(o:Ow w1 h1 B e k v n xs)(s:bB p h1 w1 h2 w2)(hr:∀g,v.ownBlock=some g->g≠p):Ow w2 h2 B e k v n xs:=
 o.keep (fun g G=>s.gr.block g (o.lt g G).2 (fun e=>hr g G (aU e))) (fun g G=>s.aI g (o.lt g G).2)
theorem Has.qj{w:World}{b:Nat}{c:Array Value}(x:Has w b c)(hc:0<c.size):bi w b=some c:=by
 have h:=x.cl;unfold World.cell? at h;unfold bi;dsimp only at h;cases ho:w.heap[b]?with
 |none=>have:=h 0;rw[ho]at this;simp[hc]at this
 |some o=>
  cases o with
  |cells c' t f=>simp only[ho]at h;have:c'=c:=Array.ext_getElem? (fun i=>by have:=h i;simpa using this);rw[this]
  |_=>have:=h 0;rw[ho]at this;simp[hc]at this
theorem G9{h:Hp}{v:Value}{s l:ByteArray}{a b:Tree}(T:aP h v (.node 21 s [l] [a,b])):∃al J G ck,v=aq #[af ae 21,ah s,ag al 1 J,ag G 2 ck]:=by obtain⟨_,_,_,_,_,e,_⟩:=T.open;exact⟨_,_,_,_,e⟩
structure eb(p b1 b2 b3:Nat)(h:Hp)(w:World)(h':Hp)(w':World)(ts:List cU)(k:Int)(name:ByteArray)(n:Nat)(ls:Array Value)(kids:Value):Prop where
 st:bB p h w h' w'
 par:bJ h' w' p ts
 x:Has w' b1 #[af ae 0,ah ⟨#[]⟩,ag none 0 0,ag none 0 0]
 r:Has w' b2 ls
 b:Has w' b3 #[af ae k,ah name,ag (some ⟨b2,0,none⟩) n n,kids]
 n1:h' b1=none
 n2:h' b2=none
 n3:h' b3=none
 g1:w.heap.size<=b1
 g2:w.heap.size<=b2
 g3:w.heap.size<=b3
 p1:b1≠p
 p2:b2≠p
 p3:b3≠p
 d12:b1≠b2
 d13:b1≠b3
 d23:b2≠b3
section
variable {p b1 b2 b3:Nat} {h h1 h2:Hp} {w w1 w2:World} {ts zT:List cU} {k:Int} {name:ByteArray} {n:Nat} {ls:Array Value} {kids:Value}
theorem eb.call(D:eb p b1 b2 b3 h w h1 w1 ts k name n ls kids)(s:bB p h1 w1 h2 w2)(q:bJ h2 w2 p zT):eb p b1 b2 b3 h w h2 w2 zT k name n ls kids:=
 ⟨D.st.call s,q,D.x.gW s D.p1,D.r.gW s D.p2,D.b.gW s D.p3,(s.aI _ D.x.lt).trans D.n1,(s.aI _ D.r.lt).trans D.n2,(s.aI _ D.b.lt).trans D.n3,D.g1,D.g2,D.g3,D.p1,D.p2,D.p3,D.d12,D.d13,D.d23⟩
theorem eb.drew(D:eb p b1 b2 b3 h w h1 w1 ts k name n ls kids):eb p b1 b2 b3 h w h1 w1.drew ts k name n ls kids:=
 ⟨D.st.drew,D.par.drew,D.x.drew,D.r.drew,D.b.drew,D.n1,D.n2,D.n3,D.g1,D.g2,D.g3,D.p1,D.p2,D.p3,D.d12,D.d13,D.d23⟩
theorem eb.lead(D:eb p b1 b2 b3 h w h1 w1 ts k name n ls kids)(i:Nat)(G:i<ls.size)(v:Value):eb p b1 b2 b3 h w h1 (w1.setCell ⟨b2,i,none⟩ v) ts k name n (ls.setIfInBounds i v) kids:=
 ⟨D.st.set (q:=⟨b2,i,none⟩) (.inl D.g2) D.n2 v,D.par.set (a:=⟨b2,i,none⟩) D.p2 v,D.x.ne (fun e=>D.d12 e.symm) i v,D.r.hU i G v,D.b.ne D.d23 i v,D.n1,D.n2,D.n3,D.g1,D.g2,D.g3,D.p1,D.p2,D.p3,D.d12,D.d13,D.d23⟩
theorem eb.named(D:eb p b1 b2 b3 h w h1 w1 ts k name n ls kids)(s:ByteArray):eb p b1 b2 b3 h w h1 (w1.setCell ⟨b3,1,none⟩ (ah s)) ts k s n ls kids:=
 ⟨D.st.set (q:=⟨b3,1,none⟩) (.inl D.g3) D.n3 _,D.par.set (a:=⟨b3,1,none⟩) D.p3 _,D.x.ne (fun e=>D.d13 e.symm) 1 _,D.r.ne (fun e=>D.d23 e.symm) 1 _,D.b.hU 1 (by simp) _,D.n1,D.n2,D.n3,D.g1,D.g2,D.g3,D.p1,D.p2,D.p3,D.d12,D.d13,D.d23⟩
theorem eb.alloc(D:eb p b1 b2 b3 h w h1 w1 ts k name n ls kids)(o:Obj):eb p b1 b2 b3 h w h1 (w1.alloc o) ts k name n ls kids:=
 ⟨D.st.alloc o,D.par.alloc o,D.x.alloc o,D.r.alloc o,D.b.alloc o,D.n1,D.n2,D.n3,D.g1,D.g2,D.g3,D.p1,D.p2,D.p3,D.d12,D.d13,D.d23⟩
theorem Has.uZ{b:Nat}{c:Array Value}{row:Option Nat}(x:Has w1 b c)(G:w1.grownBy w2 row)(hr:row≠some b):Has w2 b c:=by have e:=G.block b x.lt (fun e=>hr e.symm);exact⟨Nat.lt_of_lt_of_le x.lt G.size,fun o=>(dc (a:=⟨b,o,none⟩) e).trans (x.cl o),fun o=>(World.frozen?_of_block (a:=⟨b,o,none⟩) e).trans (x.fz o)⟩
theorem eb.grown{row:Option Nat}(D:eb p b1 b2 b3 h w h1 w1 ts k name n ls kids)(G:w1.grownBy w2 row)(hr:∀g,row=some g->g≠b1/\g≠b2/\g≠b3/\g≠p/\h1 g=none/\w.heap.size<=g):eb p b1 b2 b3 h w h1 w2 ts k name n ls kids:=
 ⟨⟨kc D.st.gr G (fun g e=> .inr (hr g e).2.2.2.2.2),D.st.I.keep fun b c hc=>G.block b (cD (D.st.I b c hc)) (fun e=>by rw[(hr b e.symm).2.2.2.2.1]at hc;cases hc),D.st.le,D.st.aI⟩,
  D.par.keep (G.block p D.par.lt (fun e=>(hr p e.symm).2.2.2.1 rfl)) G.size (Hp.le_refl _) D.par.no,
  D.x.uZ G (fun e=>(hr b1 e).1 rfl),D.r.uZ G (fun e=>(hr b2 e).2.1 rfl),D.b.uZ G (fun e=>(hr b3 e).2.2.1 rfl),D.n1,D.n2,D.n3,D.g1,D.g2,D.g3,D.p1,D.p2,D.p3,D.d12,D.d13,D.d23⟩
theorem eb.b4(D:eb p b1 b2 b3 h w h1 w1 ts k name n ls kids)(v:Value):eb p b1 b2 b3 h w h1 (w1.setCell ⟨b3,3,none⟩ v) ts k name n ls v:=
 ⟨D.st.set (q:=⟨b3,3,none⟩) (.inl D.g3) D.n3 _,D.par.set (a:=⟨b3,3,none⟩) D.p3 _,D.x.ne (fun e=>D.d13 e.symm) 3 _,D.r.ne (fun e=>D.d23 e.symm) 3 _,D.b.hU 3 (by simp) _,D.n1,D.n2,D.n3,D.g1,D.g2,D.g3,D.p1,D.p2,D.p3,D.d12,D.d13,D.d23⟩
end
def jW(k:Int):Bool:=decide (5<=k)&&decide (k<=9)
def fj(k:Int):Bool:=decide (10<=k)&&(decide (k<=22)&& !decide (k=17))
def gI(k:Int):Bool:=fj k&&(!decide (k=19)&&(!decide (k=20)&& !decide (k=21)))
def K4(k:Int)(s:ByteArray):Bool:=
 if k=1\/k=3 then decide (ke s=2)
 else if k=2\/k=4\/k=12\/k=20 then decide (ke s=1)
 else if k=9 then decide (ke s=2)||decide (ke s=4)
 else if k=16 then decide (ke s=1)||decide (ke s=3)
 else if k=10 then decide (ke s=5)
 else if k=11 then decide (ke s=6)
 else if k=21 then mV s
 else s.toList.isEmpty
def jb(k:Int)(n i:Nat)(kk:Int):Bool:=
 if k=1 then decide (kk=2)||decide (kk=3)
 else if k=2 then(if i+1=n then fj kk else if i+2=n then jW kk else decide (kk=4))
 else if k=3\/k=4\/k=8 then jW kk
 else if k=16 then decide (kk=17)
 else if k=21 then gI kk||(decide (i=0)&&decide (kk=21))
 else fj kk
theorem Hq{a b:Int}(h:a≠b):(a !=b)=true:=by simp[h]
theorem Hr{a b:Int}(h:a=b):(a !=b)=false:=by simp[h]
theorem Hs(k:Int)(w:World):Calls ai 139 #[af ae k] w fun e w'=>e= .returned (ay (jW k))/\w'=w:=by
 go_in;go_wp2_with fail
 all_goals
  go_ret;refine⟨pK ?_,rfl⟩;try simp only[beq_iff_eq,beq_eq_false_iff_ne,bne_iff_ne,ne_eq,decide_eq_true_eq,decide_eq_false_iff_not]at*
  rw[pg];simp[jW];try omega
theorem z8(k:Int)(w:World):Calls ai 138 #[af ae k] w fun e w'=>e= .returned (ay (fj k))/\w'=w:=by
 go_in;go_wp2_with fail
 all_goals
  go_ret;refine⟨pK ?_,rfl⟩;try simp only[beq_iff_eq,beq_eq_false_iff_ne,bne_iff_ne,ne_eq,decide_eq_true_eq,decide_eq_false_iff_not]at*
  rw[pg];simp[fj];try omega
theorem Ht(k:Int)(w:World):Calls ai 140 #[af ae k] w fun e w'=>e= .returned (ay (gI k))/\w'=w:=by
 go_in;go_wp2_with(go_at_call 138;refine(z8 _ _).mono ?_;rintro e w1 ⟨rfl,rfl⟩)
 all_goals
  go_ret;refine⟨pK ?_,rfl⟩;try simp only[beq_iff_eq,beq_eq_false_iff_ne,bne_iff_ne,ne_eq,decide_eq_true_eq,decide_eq_false_iff_not]at*
  rw[pg];simp[gI, *];try omega
theorem Hu(k:Int)(s:ByteArray)(hs:s.size<=140737488355328)(w:World):Calls ai 97 #[af ae k,ah s] w fun e w'=>e= .returned (ay (K4 k s))/\w'=w:=by
 go_in;go_wp2_with(first|(go_at_call 136;refine(DW _ s hs).mono ?_;rintro e w1 ⟨rfl,rfl⟩)|(go_at_call 137;refine(uP _ s).mono ?_;rintro e w1 ⟨rfl,rfl⟩))
 all_goals
  go_ret;refine⟨pK ?_,rfl⟩;try simp only[beq_iff_eq,beq_eq_false_iff_ne,ne_eq]at*
  rw[pg];simp[K4, *];try omega
theorem Hv(h:Hp)(w:World)(aj:ao h w)(v:Value)(t:Tree)(ax:aP h v t)(i:Nat)(ak:i<t.kids.length):Calls ai 98 #[v,af ae i] w fun e w'=>e= .returned (ay (jb t.kind t.kids.length i t.kids[i].kind))/\Below w.heap.size w w':=by
 obtain⟨al,G,aQ,ck,ys,rfl,aL,a2,a1,aM,am,he⟩:=ax.open;obtain⟨b,off,aT,aX,aS,aV,rfl,aJ,d0,-,-,-,-⟩:=j9 am he aj i ak;clear aj ax aM am he;generalize t.kids[i].kind=a3 at d0⊢;generalize t.kids.length=n at*;generalize t.kind=k at*;generalize t.text=O at*;generalize t.leads.length=J at*;have a4:(0:Int)<=(i:Int):=by omega
 have a5:(i:Int)<(n:Int):=by omega
 clear aL ak;have ab:∀o,w.cell? ⟨b,o,none⟩=(w.alloc (.cells #[af ae k,ah O,ag al J G,ag (some ⟨b,off,none⟩) n ck] 26)).cell? ⟨b,o,none⟩:=fun o=>by rw[World.cell?_alloc_past _ _ _ (by exact aJ)]
 rw[ab]at d0;clear ab;have X:∀o,(w.alloc (.cells #[af ae k,ah O,ag al J G,ag (some ⟨b,off,none⟩) n ck] 26)).cell? ⟨w.heap.size,o,none⟩=(#[af ae k,ah O,ag al J G,ag (some ⟨b,off,none⟩) n ck]:Array Value)[o]? :=fun o=>by rw[World.cell?_alloc_at _ _ _ _ rfl]
 have aB:=X 0;have aG:=X 3;simp only[bw,bc,bQ]at aB aG;have Y:Hid (Below w.heap.size w (w.alloc (.cells #[af ae k,ah O,ag al J G,ag (some ⟨b,off,none⟩) n ck] 26))):=(aD _ _).alloc (kI _) _;clear X;have aN:=bA (n:=(n:Int)-1) (by omega);have aO:=bA (n:=(n:Int)-2) (by omega);go_in
 go_wp2_with(first
  |(go_at_call 138;refine(z8 _ _).mono ?_;rintro e w1 ⟨rfl,rfl⟩)
  |(go_at_call 139;refine(Hs _ _).mono ?_;rintro e w1 ⟨rfl,rfl⟩)
  |(go_at_call 140;refine(Ht _ _).mono ?_;rintro e w1 ⟨rfl,rfl⟩))
 all_goals
  go_ret;refine⟨pK ?_,Y.out⟩;clear aN aO aB aG d0 Y;try simp only[beq_iff_eq,beq_eq_false_iff_ne,ne_eq]at*
  rw[pg];have aY:(i+1=n)=((i:Int)=n-1):=propext (by omega);have aZ:(i+2=n)=((i:Int)=n-2):=propext (by omega);simp[jb, *];try omega
mutual
def ep:Tree->Bool
 | .node k s _ ks=>decide (0<=b9 k ks.length)&&(K4 k s&&fZ k ks.length 0 ks)
def fZ(k:Int)(n:Nat):Nat->List Tree->Bool
 |_,[]=>true
 |i,t::ts=>jb k n i t.kind&&(ep t&&fZ k n (i+1) ts)
end
theorem r4(t:Tree):ep t=(decide (0<=b9 t.kind t.kids.length)&&(K4 t.kind t.text&&fZ t.kind t.kids.length 0 t.kids)):=by cases t;rw[ep];rfl
mutual
def Tree.texts:Tree->Prop
 | .node _ s _ ks=>s.size<=140737488355328/\lq ks
def lq:List Tree->Prop
 |[]=>True
 |t::ts=>t.texts/\lq ts
end
theorem Tree.Aa(t:Tree):t.texts↔t.text.size<=140737488355328/\lq t.kids:=by cases t;rw[Tree.texts];rfl
theorem Ab:∀{ts:List Tree} (_:lq ts) {i:Nat} (G:i<ts.length),ts[i].texts
 |t::ts,h,0,_=>by rw[lq]at h;exact h.1
 |t::ts,h,i+1,G=>by rw[lq]at h;exact Ab h.2 (by simpa using G)
theorem Hw(k:Int)(n:Nat)(ts:List Tree)(i:Nat)(G:i<ts.length)(j:Nat):fZ k n j (ts.drop i)=(jb k n j ts[i].kind&&(ep ts[i]&&fZ k n (j+1) (ts.drop (i+1)))):=by rw[jh G,fZ]
theorem Hx(m:Nat):∀(t:Tree) (_:t.size<=m) (_:t.texts) (h:Hp) (w:World) (_:ao h w) (v:Value) (_:aP h v t),Calls ai 46 #[v] w fun e w'=>e= .returned (ay (ep t))/\Below w.heap.size w w':=by
 induction m with
 |zero=>intro t hn;have:=t.size_eq;omega
 |succ m bz=>
  intro t ch a5 h w bg v a4;have bL:=aa a4;have bI:=aa bg;have bR:=aa bz;have bO:=aa a5;have hz:=Tree.size_eq t;rw[hz]at ch;have ci:=((Tree.Aa t).1 a5).1;obtain⟨al,ak,ax,ck,ys,rfl,cq,ct,cf,cg,bq,he⟩:=a4.open;have bJ:=aa bq;have bH:=aa he;clear bz a4 hz bg bq cg he a5;have G:=aa (r4 t);go_in;go_wp2_with fail;refine(Ho t.kind t.kids.length cf _).mono ?_;rintro e w1 ⟨rfl,a8⟩;obtain rfl:=a8.symm;have J:Hid (Has (w.alloc (.cells #[af ae t.kind,ah t.text,ag al t.leads.length ak,ag ax t.kids.length ck] 26)) w.heap.size #[af ae t.kind,ah t.text,ag al t.leads.length ak,ag ax t.kids.length ck]):=Has.new _ _ _;have B0:Hid (Below w.heap.size w (w.alloc (.cells #[af ae t.kind,ah t.text,ag al t.leads.length ak,ag ax t.kids.length ck] 26))):=(aD _ _).alloc (kI _) _;generalize w.alloc (.cells #[af ae t.kind,ah t.text,ag al t.leads.length ak,ag ax t.kids.length ck] 26)=w0 at J B0⊢;have aJ:=J.out.cl 1;have aG:=J.out.cl 0;have aL:=J.out.cl 3;simp only[bw,bc,bQ]at aG aJ aL;have cj:=J.out.lt;by_cases bm:b9 t.kind t.kids.length<0
  ·have H:Hid (ep t=false):=by unfold Hid;rw[G.out,decide_eq_false (by omega),oD]
   generalize b9 t.kind t.kids.length=z at bm⊢;go_wp2_with fail;go_ret;rw[H.out];exact⟨rfl,B0.out⟩
  ·have bp:0<=b9 t.kind t.kids.length:=by omega
   have aV:Hid (ep t=(K4 t.kind t.text&&fZ t.kind t.kids.length 0 t.kids)):=by unfold Hid;rw[G.out,decide_eq_true bp,sQ]
   generalize b9 t.kind t.kids.length=z at bm bp⊢;clear G;go_wp2_with fail;refine(Hu t.kind t.text ci _).mono ?_;rintro e w1 ⟨rfl,a8⟩;obtain rfl:=a8.symm;obtain⟨b,a1⟩:∃b,K4 t.kind t.text=b:=⟨_,rfl⟩
   rw[a1];have aS:=aa a1;clear a1;cases b
   ·have H:Hid (ep t=false):=by unfold Hid;rw[aV.out,aS.out,oD]
    go_wp2_with fail;go_ret;rw[H.out];exact⟨rfl,B0.out⟩
   ·have bV:Hid (ep t=fZ t.kind t.kids.length 0 (t.kids.drop 0)):=by unfold Hid;rw[aV.out,aS.out,sQ,List.drop_zero]
    clear aV aS;go_wp2_with fail;go_loopw[23] (fun i wr=>∃(j:Nat),j<=t.kids.length/\i=af ae j/\ep t=fZ t.kind t.kids.length j (t.kids.drop j)/\Has wr w.heap.size #[af ae t.kind,ah t.text,ag al t.leads.length ak,ag ax t.kids.length ck]/\Below w.heap.size w wr) (fun i _=>t.kids.length-(intOf i).toNat);case atStart=>exact⟨0,aW _,rfl,bV.out,J.out,B0.out⟩
    case round=>
     obtain⟨j,co,rfl,aB,xb,bl⟩:=hrel;clear aG aJ aL cj J B0;by_cases hj:j<t.kids.length
     ·rw[Hw _ _ _ _ hj]at aB;have a9:=bI.out.below bl;obtain⟨b,off,ab,am,Y,aj,rfl,cn,d0,b0,cc,cd,bv⟩:=j9 bJ.out bH.out a9 j hj;have aG:=xb.cl 0;have aJ:=xb.cl 1;have bA:=xb.cl 2;have aL:=xb.cl 3;simp only[bw,bc,bQ]at aG aJ bA aL;have cl:=xb.lt;have cu:(0:Int)<=(j:Int):=by omega
      have cv:(j:Int)<(t.kids.length:Int):=by omega
      have G:=aa aB;have bN:=aa bv;have bX:=aa xb;have aM:=aa bl;have bS:=aa a9;clear aB bv xb bl a9;go_wp2_with fail;have aY:Hid (Has (wr.alloc (.cells #[af ae t.kids[j].kind,ah t.kids[j].text,ag ab t.kids[j].leads.length am,ag Y t.kids[j].kids.length aj] 26)) wr.heap.size #[af ae t.kids[j].kind,ah t.kids[j].text,ag ab t.kids[j].leads.length am,ag Y t.kids[j].kids.length aj]):=Has.new _ _ _;have aX:Hid (Has (wr.alloc (.cells #[af ae t.kids[j].kind,ah t.kids[j].text,ag ab t.kids[j].leads.length am,ag Y t.kids[j].kids.length aj] 26)) w.heap.size #[af ae t.kind,ah t.text,ag al t.leads.length ak,ag (some ⟨b,off,none⟩) t.kids.length ck]):=bX.out.alloc _;have aN:Hid (Below w.heap.size w (wr.alloc (.cells #[af ae t.kids[j].kind,ah t.kids[j].text,ag ab t.kids[j].leads.length am,ag Y t.kids[j].kids.length aj] 26))):=aM.out.alloc aM.out.size _;have aO:Hid (ao h (wr.alloc (.cells #[af ae t.kids[j].kind,ah t.kids[j].text,ag ab t.kids[j].leads.length am,ag Y t.kids[j].kids.length aj] 26))):=bS.out.alloc _;clear d0 b0 cc cd aG aJ bA aL cl;generalize wr.alloc (.cells #[af ae t.kids[j].kind,ah t.kids[j].text,ag ab t.kids[j].leads.length am,ag Y t.kids[j].kids.length aj] 26)=w2 at aY aX aN aO⊢;refine(Hv h _ aO.out _ t bL.out j hj).mono ?_;rintro e w3 ⟨rfl,b3⟩;have O:=aY.out.below b3;have bY:=aa (aX.out.below b3);have aQ:=aa (aN.out.trans (b3.mono aN.out.size));have bT:=aa (aO.out.below b3);have bB:=O.cl 0;have bC:=O.cl 1;have bE:=O.cl 2;have bG:=O.cl 3;simp only[bw,bc,bQ]at bB bC bE bG;have cm:=O.lt;obtain⟨kb,a2⟩:∃kb,jb t.kind t.kids.length j t.kids[j].kind=kb:=⟨_,rfl⟩
      rw[a2];have aT:=aa a2;clear a2 aY aX aN aO O b3;cases kb
      ·have H:Hid (ep t=false):=by unfold Hid;rw[G.out,aT.out,oD]
       go_wp2_with fail;go_ret;rw[H.out];exact⟨rfl,aQ.out⟩
      ·have ce:t.kids[j].size<=m:=by have:=dB (aK hj);omega
       go_wp2_with fail;refine(bR.out t.kids[j] ce (Ab ((Tree.Aa t).1 bO.out).2 hj) h _ bT.out _ bN.out).mono ?_;rintro e cw ⟨rfl,aZ⟩;have bZ:=aa (bY.out.below aZ);have ba:=aa (aQ.out.trans (aZ.mono aQ.out.size));obtain⟨sb,a3⟩:∃sb,ep t.kids[j]=sb:=⟨_,rfl⟩
       rw[a3];have bd:=aa a3;clear a3 aZ bB bC bE bG cm;cases sb
       ·have H:Hid (ep t=false):=by unfold Hid;rw[G.out,aT.out,bd.out,oD,Bool.and_false]
        go_wp2_with fail;go_ret;rw[H.out];exact⟨rfl,ba.out⟩
       ·go_wp2_with fail;go_roundw;case rel=>exact⟨j+1,by omega,by go_num,by rw[G.out,aT.out,bd.out,sQ,sQ],bZ.out,ba.out⟩
        case measure=>simp[intOf];omega
     ·have H:Hid (ep t=true):=by unfold Hid;rw[aB,show t.kids.drop j=[]from oz (by omega),fZ]
      have aM:=aa bl;clear aB xb bl;go_wp2_with fail;go_ret;rw[H.out];exact⟨rfl,aM.out⟩
def jc(l:List Tree):Bool:=l.all fun t=>decide (t.kind=1)&&ep t
theorem Ac(h:Hp)(w:World)(aO:ao h w)(v:Value)(l:List Tree)(hv:hQ h v l)(hs:∀t∈l,t.texts):Calls ai 22 #[v] w fun e w'=>e= .returned (ay (jc l))/\Below w.heap.size w w':=by
 obtain⟨cs,ak,aN⟩:=hv;obtain⟨a,a3,rfl,bd⟩:=ak.shape;have aX:=aa ak;have aS:=aa aN;have aT:=aa aO;have aY:=aa hs;clear ak aN aO hs;go_in;go_wp2_with fail;go_loopw[7] (fun i wr=>∃(j:Nat),j<=l.length/\i=af ae j/\jc l=jc (l.drop j)/\Below w.heap.size w wr) (fun i _=>l.length-(intOf i).toNat);case atStart=>exact⟨0,aW _,rfl,rfl,aD _ _⟩
 case round=>
  obtain⟨j,ba,rfl,hp,bl⟩:=hrel;by_cases hj:j<l.length
  ·have aP:jc l=((decide (l[j].kind=1)&&ep l[j])&&jc (l.drop (j+1))):=by rw[hp,jh hj];rfl
   have aj:=aT.out.below bl;obtain⟨b,off,aG,aM,aB,aL,rfl,a9,d0,a4,a5,a8,aQ⟩:=j9 aX.out aS.out aj j hj;have Y:=aa aP;have ax:=aa aQ;have G:=aa bl;have a1:=aa aj;have bg:(0:Int)<=(j:Int):=by omega
   have bm:(j:Int)<(l.length:Int):=by omega
   have aZ:=aa (aY.out l[j] (aK hj));clear hp aP aQ bl aj;by_cases J:l[j].kind=1
   ·have aV:=aa J;have g1:=Hr J;have g2:l[j].kind=1:=J;clear J;rw[g2]at d0 ax g1;clear g2;go_wp2_with fail;refine(Hx l[j].size l[j] (kI _) aZ.out h _ (by exact a1.out.alloc _) _ (by exact ax.out)).mono ?_;rintro e a2 ⟨rfl,aJ⟩;have O:Hid (Below w.heap.size w a2):=(G.out.alloc G.out.size (.cells #[af ae 1,ah l[j].text,ag aG l[j].leads.length aM,ag aB l[j].kids.length aL] 26)).trans (aJ.mono (by have:=G.out.size;simp;omega));obtain⟨sb,ab⟩:∃sb,ep l[j]=sb:=⟨_,rfl⟩
    rw[ab];have am:=aa ab;clear ab aJ;cases sb
    ·have H:Hid (jc l=false):=by unfold Hid;rw[Y.out,am.out,Bool.and_false,oD]
     go_wp2_with fail;go_ret;rw[H.out];exact⟨rfl,O.out⟩
    ·go_wp2_with fail;go_roundw;case rel=>exact⟨j+1,by omega,by go_num,by rw[Y.out,aV.out,am.out];rfl,O.out⟩
     case measure=>simp[intOf];omega
   ·have H:Hid (jc l=false):=by unfold Hid;rw[Y.out,decide_eq_false J,oD,oD]
    have g1:=Hq J;have O:Hid (Below w.heap.size w (wr.alloc (.cells #[af ae l[j].kind,ah l[j].text,ag aG l[j].leads.length aM,ag aB l[j].kids.length aL] 26))):=G.out.alloc G.out.size _;clear J;go_wp2_with fail;go_ret;rw[H.out];exact⟨rfl,O.out⟩
  ·have H:Hid (jc l=true):=by unfold Hid;rw[hp,show l.drop j=[]from oz (by omega)];rfl
   have G:=aa bl;clear hp bl;go_wp2_with fail;go_ret;rw[H.out];exact⟨rfl,G.out⟩
end Go.Proofs.YtdplggpbgommnaaGreatDoor
