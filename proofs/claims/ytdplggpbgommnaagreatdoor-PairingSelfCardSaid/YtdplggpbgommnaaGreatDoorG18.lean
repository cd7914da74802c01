/- The parser: operators; an expression of two numbers. -/
import Derived.Test.YtdplggpbgommnaaGreatDoorG15
open Bool renaming eq_iff_iff→pg,false_and→oD,true_and→sQ
open Go renaming heap_alloc_new→gL
open Go.Act renaming put→br
open Go.ByteArray renaming toList_eq→eT
open Go.IntKind renaming i64→ae
open Go.Lib renaming hid→aa
open Go.Obj renaming cells→au
open Go.Proofs.Tryz renaming prog→ai
open Go.RowKit.Below renaming heap_alloc→fp,heap_setCell→cH,refl→aD
open Go.Value renaming agg→aq,bool→ay,int→af,slice→ag,string→ah
open Go.Value.agg renaming injEq→oG
open Go.World renaming cell?_of_block→dc,setCell→ef
open List renaming drop_eq_getElem_cons→jh,drop_of_length_le→oz,getElem?_cons_succ→bQ,getElem?_cons_zero→bc,getElem?_toArray→bw,getElem_cons_succ→dV,getElem_cons_zero→dJ,getElem_mem→aK,getElem_toArray→eV,length_cons→bF,length_nil→cL,setIfInBounds_toArray→bh,set_cons_succ→bf,set_cons_zero→be
open Nat renaming le_of_lt→kB,le_refl→an,ne_of_gt→sP,zero_le→aW
open Option.some renaming inj→aU
set_option maxRecDepth 100000
set_option maxHeartbeats 32000000
namespace Go.Proofs.YtdplggpbgommnaaGreatDoor
open Go.RowKit
def zn:List (List UInt8):=[[43],[45],[42],[60],[61,61]]
def mV(s:ByteArray):Bool:=decide (s.data.toList∈zn)
theorem uP(w:World)(s:ByteArray):Calls ai 137 #[ah s] w fun e w'=>e= .returned (ay (mV s))∧w=w':=by
 go_enter Tryz.func137,Tryz.ntmps137;go_wp2_with fail;all_goals go_ret
 all_goals exact⟨by simp_all[mV,zn,eT],rfl⟩
structure lm(s:ByteArray):Prop where
 n1:(s.toList==[116,114,117,101])=false
 n2:(s.toList==[102,97,108,115,101])=false
 n3:(s.toList==[63])=false
 n4:(s.toList==[91])=false
 n5:(s.toList==[40])=false
 n6:(s.toList==[108,101,116])=false
 n7:(s.toList==[105,102])=false
theorem bB.aM{p:Nat}{h h1:Hp}{w w1:World}(s:bB p h w h1 w1){b:Nat}(A:w.heap.size≤b)(E:h1 b=none)(v0 G M O:Value):bB p h w h1 ((((w1.setCell ⟨b,0,none⟩ v0).setCell ⟨b,1,none⟩ G).setCell ⟨b,2,none⟩ M).setCell ⟨b,3,none⟩ O):=
 (((s.set (q:=⟨b,0,none⟩) (.inl A) E v0).set (q:=⟨b,1,none⟩) (.inl A) E G).set (q:=⟨b,2,none⟩) (.inl A) E M).set (q:=⟨b,3,none⟩) (.inl A) E O
theorem bJ.aM{p:Nat}{h:Hp}{w:World}{ts:List cU}(q:bJ h w p ts){b:Nat}(A:b≠p)(v0 E G M:Value):bJ h ((((w.setCell ⟨b,0,none⟩ v0).setCell ⟨b,1,none⟩ E).setCell ⟨b,2,none⟩ G).setCell ⟨b,3,none⟩ M) p ts:=
 (((q.set (a:=⟨b,0,none⟩) A v0).set (a:=⟨b,1,none⟩) A E).set (a:=⟨b,2,none⟩) A G).set (a:=⟨b,3,none⟩) A M
theorem Has.mW{w:World}{b:Nat}{a0 M O Y:Value}(x:Has w b #[a0,M,O,Y])(v0 A E G:Value):Has ((((w.setCell ⟨b,0,none⟩ v0).setCell ⟨b,1,none⟩ A).setCell ⟨b,2,none⟩ E).setCell ⟨b,3,none⟩ G) b #[v0,A,E,G]:=
 (((x.hU 0 (by simp) v0).hU 1 (by simp) A).hU 2 (by simp) E).hU 3 (by simp) G
theorem Has.o4{w:World}{b g:Nat}{c:Array Value}(x:Has w b c)(A:g≠b)(v0 E G M:Value):Has ((((w.setCell ⟨g,0,none⟩ v0).setCell ⟨g,1,none⟩ E).setCell ⟨g,2,none⟩ G).setCell ⟨g,3,none⟩ M) b c:=
 (((x.ne A 0 v0).ne A 1 E).ne A 2 G).ne A 3 M
theorem Has.jU{w:World}{b:Nat}{v0 A E G:Value}(x:Has w b #[v0,A,E,G]):w.cell? ⟨b,0,none⟩=some v0∧w.cell? ⟨b,1,none⟩=some A∧w.cell? ⟨b,2,none⟩=some E∧w.cell? ⟨b,3,none⟩=some G:=⟨x.cl 0,x.cl 1,x.cl 2,x.cl 3⟩
theorem uQ{p bl bk:Nat}{h h7:Hp}{w W:World}{ts:List cU}{text lead:ByteArray}{am ao:Tree}{A E G M O Y ab ac:Value}(S:bB p h w h7 W)(Q:bJ h7 W p ts)(aO:aP h7 (aq #[A,E,G,M]) am)(aQ:aP h7 (aq #[O,Y,ab,ac]) ao)(aX:bi W bl=some #[ah lead])(aV:bi W bk=some #[A,E,G,M,O,Y,ab,ac])(aT:w.heap.size≤bl)(aS:w.heap.size≤bk)(a1:bl≠p)(aZ:bk≠p)(ak:h7 bl=none)(aY:h7 bk=none)(aN:bk≠bl):∃ad,bB p h w ad W∧bJ ad W p ts∧aP ad (aq #[af ae 21,ah text,ag (some ⟨bl,0,none⟩) 1 1,ag (some ⟨bk,0,none⟩) 2 2]) (.node 21 text [lead] [am,ao])∧∀b,b≠bl→b≠bk→ad b=h7 b:=by
 have aj:(h7.add bl #[ah lead]) bk=none:=by unfold Hp.add;rw[if_neg aN];exact aY
 have aL:h7.le (h7.add bl #[ah lead]):=Hp.eG _ ak;have aM:(h7.add bl #[ah lead]).le ((h7.add bl #[ah lead]).add bk #[A,E,G,M,O,Y,ab,ac]):=Hp.eG _ aj
 have ax:∀{a b c d:Value} {t:Tree},aP h7 (aq #[a,b,c,d]) t→bg h7 t [a,b,c,d]:=fun{a b c d t} ⟨cs,e,i⟩=>by
  have:cs=[a,b,c,d]:=by simp only[oG]at e;have:=congrArg Array.toList e;simpa using this.symm
  rw[this]at i;exact i
 refine⟨_,(S.add aT ak aX).add aS aj aV,(Q.add _ a1 ak).add _ aZ aj,?_,fun b h1 h2=>by unfold Hp.add;rw[if_neg h2,if_neg h1]⟩;refine⟨_,rfl,?_⟩;rw[bg];refine⟨_,_,_,_,[A,E,G,M,O,Y,ab,ac],rfl,by unfold aG;omega,⟨_,_,rfl,by simp,rfl,.inr ⟨bl,0,#[ah lead],rfl,by unfold Hp.add;rw[if_neg (fun e=>aN e.symm),if_pos rfl],fun i aB=> ?_⟩⟩,⟨_,_,rfl,by simp,rfl,.inr ⟨bk,0,#[A,E,G,M,O,Y,ab,ac],rfl,by unfold Hp.add;rw[if_pos rfl],fun i aB=>by simp⟩⟩,?_⟩
 ·have:i=0:=by simp at aB;omega
  subst this;rfl
 ·rw[eH.iff];exact(aJ.one ((ax aO).mono (Hp.le_trans aL aM))).append (aJ.one ((ax aQ).mono (Hp.le_trans aL aM)))
theorem zo{h:Hp}{v:Value}{s l:ByteArray}(T:aP h v (.node 10 s [l] [])):∃E G A ck,v=aq #[af ae 10,ah s,ag E 1 G,ag A 0 ck]:=by obtain⟨_,_,_,_,_,e,_⟩:=T.open;exact⟨_,_,_,_,e⟩
def rQ(w:World)(p:Nat):Nat:=match w.cell? ⟨p,0,none⟩with|some (ag _ n _)=>n|_=>0
theorem bJ.left{h:Hp}{w:World}{p:Nat}{ts:List cU}(q:bJ h w p ts):rQ w p=ts.length:=by obtain⟨a,c,E,G,A,x,_⟩:=q.row;unfold rQ;rw[x.cl 0];rfl
theorem Gv(h:Hp)(w:World)(dg:ao h w)(p:Nat)(O A Y:cU)(q:bJ h w p [O,A,Y])(k1:O.kind=5)(ba:lm O.text)(d4:mV A.text=true)(k3:Y.kind=5)(aQ:lm Y.text):Calls ai 134 #[.pointer (some ⟨p,0,none⟩)] w fun e w'=>∃v,e= .returned v∧∃h',bB p h w h' w'∧bJ h' w' p []∧aP h' v (.node 21 A.text [A.lead] [.node 10 O.text [O.lead] [],.node 10 Y.text [Y.lead] []]):=by
 have bq:=aa dg;have Q:=aa q;have cc:w.heap.size≠p:=by have:=q.lt;omega
 have ec:=nX;have eo:=ba.n6;have ep:=ba.n7;clear dg q;go_enter Tryz.func134,Tryz.ntmps134;go_wp2_with fail;refine(mU h _ (bq.out.alloc _) p O [A,Y] (Q.out.alloc _)).mono ?_;rintro e w1 ⟨rfl,M⟩;have cX:Hid (Has w1 w.heap.size #[af ae 0,ah ⟨#[]⟩,ag none 0 0,ag none 0 0]):=(Has.new _ _ _).below M;have dp:=aa ((bq.out.alloc (au #[af ae 0,ah ⟨#[]⟩,ag none 0 0,ag none 0 0] 26)).below M);have dA:=aa ((Q.out.alloc (au #[af ae 0,ah ⟨#[]⟩,ag none 0 0,ag none 0 0] 26)).below M);have dD:Hid (bB p h w h w1):=((bB.refl bq.out).alloc _).call (bB.below (bq.out.alloc _) M);clear M;go_wp2_with fail;refine(uO h _ dp.out p O [A,Y] dA.out k1 ba.n1 ba.n2 ba.n3 ba.n4 ba.n5).mono ?_;rintro e w2 ⟨v,rfl,h2,cm,dh,cq⟩;obtain⟨ac,aj,ab,ad,rfl⟩:∃a5 a8 a4 ck,v=aq #[af ae 10,ah O.text,ag a5 1 a8,ag a4 0 ck]:=by obtain⟨_,_,_,_,_,e,_⟩:=cq.open;exact⟨_,_,_,_,e⟩
 have cY:=aa (cX.out.gW cm cc);have cK:Hid (h2 w.heap.size=none):=(cm.aI _ cX.out.lt).trans (bI bq.out _ (an _));have cN:=aa (dD.out.call cm);have cM:=aa dh;have cD:=aa cq;clear cm dh cq;go_wp2_with fail;have cg:=aa (cN.out.alloc (au #[af ae 10,ah O.text,ag ac 1 aj,ag ab 0 ad] 26));have cf:=aa (cM.out.alloc (au #[af ae 10,ah O.text,ag ac 1 aj,ag ab 0 ad] 26));have cZ:=aa (cY.out.alloc (au #[af ae 10,ah O.text,ag ac 1 aj,ag ab 0 ad] 26));have c9:=aa (Has.new w2 #[af ae 10,ah O.text,ag ac 1 aj,ag ab 0 ad] 26);have cG:=aa (bI cN.out.I _ (an _));have bp:Hid (w.heap.size<w2.heap.size):=cY.out.lt;have aY:Hid (w2.heap.size≠p):=by unfold Hid;have:=cM.out.lt;omega
 generalize dX:w2.alloc (au #[af ae 10,ah O.text,ag ac 1 aj,ag ab 0 ad] 26)=w3 at*;clear dX;go_loopw[6,98,99,100,101,102,103,104,105,106,107,108,109,110,111,112,113] (fun _ _ _ _ _ _ _ _ _ _ _ _ _ _ _ _ _ wr=>wr=w3∨∃(aO:Hp) (a5 a8 a4 ck:_),bB p h w aO wr∧bJ aO wr p []∧Has wr w2.heap.size #[af ae 21,ah A.text,ag a5 1 a8,ag a4 2 ck]∧aP aO (aq #[af ae 21,ah A.text,ag a5 1 a8,ag a4 2 ck]) (.node 21 A.text [A.lead] [.node 10 O.text [O.lead] [],.node 10 Y.text [Y.lead] []])∧Has wr w.heap.size #[af ae 0,ah ⟨#[]⟩,ag none 0 0,ag none 0 0]∧aO w.heap.size=none) (fun _ _ _ _ _ _ _ _ _ _ _ _ _ _ _ _ _ wr=>rQ wr p);case atStart=>exact .inl rfl
 case round=>
  rcases hrel with rfl|⟨aO,a5,a8,a4,ck,bg,bv,bE,cV,bC,dv⟩
  ·have co:=aa cf.out.left;go_wp2_with fail;refine(mU h2 _ cg.out.I p A [Y] cf.out).mono ?_;rintro e er ⟨rfl,M⟩;have bg:=aa (cg.out.call (bB.below cg.out.I M));have bv:=aa (cf.out.below M);have bC:=aa (cZ.out.below M);have bE:=aa (c9.out.below M);clear M;go_wp2_with fail;refine(uP _ A.text).mono ?_;rintro e a9 ⟨rfl,rfl⟩;rw[d4];go_wp2_with fail;refine(qg h2 _ bg.out.I p A [Y] bv.out).mono ?_;rintro e a9 ⟨rfl,cn,di⟩;have bm:=aa (bg.out.call cn);have bd:=aa di;have cj:=aa (bC.out.gW cn cc);have bG:=aa (bE.out.gW cn aY.out);clear cn di;go_wp2_with fail;have bA:=aa (bm.out.alloc (au #[af ae A.kind,ah A.lead,ah A.text] 95));have bz:=aa (bd.out.alloc (au #[af ae A.kind,ah A.lead,ah A.text] 95));have ax:=aa (cj.out.alloc (au #[af ae A.kind,ah A.lead,ah A.text] 95));have aN:=aa (bG.out.alloc (au #[af ae A.kind,ah A.lead,ah A.text] 95));have bH:=aa (Has.new a9 #[af ae A.kind,ah A.lead,ah A.text] 95);have dj:Hid (a9.heap.size≠p):=by unfold Hid;have:=bd.out.lt;omega
   generalize a9.alloc (au #[af ae A.kind,ah A.lead,ah A.text] 95)=am at*;have dw:Hid (w2.heap.size≠a9.heap.size):=by unfold Hid;have:=bG.out.lt;omega
   generalize a9.heap.size=aV at*;have d6:=aN.out.cl 0;have d7:=aN.out.cl 1;have d8:=aN.out.cl 2;have d9:=aN.out.cl 3;have ea:=bH.out.cl 1;have eb:=bH.out.cl 2;have en:=aN.out.lt;have l2:=bH.out.lt;simp only[bw,bc,bQ]at d6 d7 d8 d9 ea eb;have ed:=aQ;clear bm bd cj bG bg bv bC bE cg cf cZ c9;have cQ:=aa (bA.out.alloc (au #[ah A.lead] 9)).drew;have dB:=aa (bz.out.alloc (au #[ah A.lead] 9)).drew;have c6:=aa (ax.out.alloc (au #[ah A.lead] 9)).drew;have db:=aa (aN.out.alloc (au #[ah A.lead] 9)).drew;have dF:=aa (bH.out.alloc (au #[ah A.lead] 9)).drew;have dr:Hid (bi (am.alloc (au #[ah A.lead] 9)).drew am.heap.size=some #[ah A.lead]):=by unfold Hid;show bi (am.alloc _) _=_;unfold bi;rw[gL]
   have du:Hid (h2 am.heap.size=none):=bI bA.out.I _ (an _);have cS:=aa bA.out.drew;have dC:=aa bz.out.drew;have c8:=aa ax.out.drew;have de:=aa aN.out.drew;have dG:=aa bH.out.drew;have dk:Hid (am.heap.size≠p):=by unfold Hid;have:=bz.out.lt;omega
   have d3:w2.heap.size≠aV:=dw.out;have eq:aV≠w2.heap.size:=fun e=>d3 e.symm;refine wp_region_noPanic ?_;refine nE (n:=10) (S:=(fun w'=>w'.cell? ⟨w2.heap.size,0,none⟩=some (af ae 10)∧w'.cell? ⟨w2.heap.size,1,none⟩=some (ah O.text)∧w'.cell? ⟨w2.heap.size,2,none⟩=some (ag ac 1 aj)∧w'.cell? ⟨w2.heap.size,3,none⟩=some (ag ab 0 ad)∧w'.cell? ⟨aV,1,none⟩=some (ah A.lead)∧w'.cell? ⟨aV,2,none⟩=some (ah A.text))) (by kernel_rfl) ?_ (fun em=> ?_);·go_keep
   simp only[Array.replicate,List.replicate,List.size_toArray,bF,cL,Nat.zero_add,Nat.reduceAdd]
   iterate 4
    refine iL (v:= ?_) 0 rfl (by kernel_rfl) (fun _ _ _ h=>h) (by rfl) (by assumption) ?_ ?_
    rotate_left
    ·intro w aX;(try dsimp only at aX);simp only[nx];go_simp<;>with_reducible rfl
    simp only[nx,br,eV,dV,dJ,bh,be,bf]
   iterate 2
    refine iL (v:= ?_) 5 rfl (by kernel_rfl) (fun _ _ _ h=>h) (by rfl) (by assumption) ?_ ?_
    rotate_left
    ·intro w aX;(try dsimp only at aX);simp only[nx];go_simp<;>with_reducible rfl
    simp only[nx,br,eV,dV,dJ,bh,be,bf]
   refine cE (rs:=[4,7]) (by kernel_rfl) (by simp) ?_;refine aZ.cons (o:=_) rfl (fun K G=> ?_) ?_
   ·go_simp;refine G.out _ _ (fun _=> ?_) ?_;·go_keep
    clear G K;try simp only[bh,be,bf]
    refine cE (rs:=[7]) (by kernel_rfl) (by simp) ?_;refine aZ.cons (o:=_) rfl (fun K G=> ?_) aZ.nil;go_simp;go_at_call 180;refine(uO h2 _ (by exact cQ.out.I) p Y [] (by exact dB.out) k3 aQ.n1 aQ.n2 aQ.n3 aQ.n4 aQ.n5).mono ?_;rintro e E ⟨d5,rfl,h7,ak,bT,a1⟩;obtain⟨aG,aL,aB,aJ,rfl⟩:=zo a1;have aT:=aa (cQ.out.call ak);have aS:=aa bT;have a2:=aa (c6.out.gW ak cc);have aM:=aa (db.out.gW ak aY.out);have a3:=aa (dF.out.gW ak dj.out);have dq:Hid (bi E am.heap.size=some #[ah A.lead]):=(oO (ak.gr.block _ (by simp) (fun e=>dk.out (aU e)))).trans dr.out;have dt:Hid (h7 am.heap.size=none):=(ak.aI _ (by simp)).trans du.out;have cF:Hid (am.heap.size<E.heap.size):=by unfold Hid;have:=ak.size;simp at this;omega
    have ci:=aa a1;have ch:=aa (cD.out.mono ak.le);have ce:Hid (h7 w.heap.size=none):=(ak.aI _ c6.out.lt).trans cK.out;have cd:Hid (h7 w2.heap.size=none):=(ak.aI _ db.out.lt).trans cG.out;obtain⟨ct,cu,cv,cw⟩:=aM.out.jU;have dT:=aM.out.fz 0;have g1:=aM.out.fz 1;have dU:=aM.out.fz 2;have dW:=aM.out.fz 3;have cz:E.cell? ⟨aV,1,none⟩=some (ah A.lead):=a3.out.cl 1;have cA:E.cell? ⟨aV,2,none⟩=some (ah A.text):=a3.out.cl 2;have dY:=aM.out.lt;have dZ:=a3.out.lt;have d0:w2.heap.size<E.heap.size+1:=by omega
    have d1:aV<E.heap.size+1:=by omega
    clear ak bT a1;refine G.out _ _ (fun _=> ?_) ?_;·exact⟨ct,cu,cv,cw,cz,cA⟩
    clear G K;try simp only[bh,be,bf]
    refine cE (rs:=[8]) (by kernel_rfl) (by simp) ?_;refine aZ.cons (o:=_) rfl (fun K G=> ?_) aZ.nil;go_simp;refine G.out _ _ (fun _=> ?_) ?_;·go_keep
    clear G K;try simp only[bh,be,bf]
    refine iL (v:= ?_) 9 rfl (by kernel_rfl) (fun _ _ _ h=>h) (by rfl) (by go_keep) ?_ ?_
    rotate_left
    ·intro w aX;(try dsimp only at aX);simp only[nx];go_simp<;>with_reducible rfl
    simp only[nx,br,eV,dV,dJ,bh,be,bf];refine cE (rs:=[10]) (by kernel_rfl) (by simp) ?_;refine aZ.cons (o:=_) rfl (fun K G=> ?_) aZ.nil;go_simp;refine G.out _ _ (fun h=>absurd h (by decide)) ?_;clear G K;try simp only[bh,be,bf]
    refine lK (by kernel_rfl) ?_ _;simp only[NoPanic];go_wp2_with fail;go_roundw
    case rel=>
     have hz:(((((E.setCell ⟨w2.heap.size,0,none⟩ (af ae 21)).setCell ⟨w2.heap.size,1,none⟩ (ah A.text)).setCell ⟨w2.heap.size,2,none⟩ (ag (some ⟨am.heap.size,0,none⟩) 1 1)).setCell ⟨w2.heap.size,3,none⟩ (ag (some ⟨E.heap.size,0,none⟩) 2 2))).heap.size=E.heap.size:=by simp[ef]
     have cB:∀b,b≠w2.heap.size→bi (((((E.setCell ⟨w2.heap.size,0,none⟩ (af ae 21)).setCell ⟨w2.heap.size,1,none⟩ (ah A.text)).setCell ⟨w2.heap.size,2,none⟩ (ag (some ⟨am.heap.size,0,none⟩) 1 1)).setCell ⟨w2.heap.size,3,none⟩ (ag (some ⟨E.heap.size,0,none⟩) 2 2))) b=bi E b:=fun b M=>by unfold bi;rw[cH _ _ _ _ M,cH _ _ _ _ M,cH _ _ _ _ M,cH _ _ _ _ M]
     have bY:=aT.out.aM (kB bp.out) cd.out (af ae 21) (ah A.text) (ag (some ⟨am.heap.size,0,none⟩) 1 1) (ag (some ⟨E.heap.size,0,none⟩) 2 2);have bV:=aS.out.aM aY.out (af ae 21) (ah A.text) (ag (some ⟨am.heap.size,0,none⟩) 1 1) (ag (some ⟨E.heap.size,0,none⟩) 2 2);have b9:=aM.out.mW (af ae 21) (ah A.text) (ag (some ⟨am.heap.size,0,none⟩) 1 1) (ag (some ⟨E.heap.size,0,none⟩) 2 2);have b0:=a2.out.o4 (sP bp.out) (af ae 21) (ah A.text) (ag (some ⟨am.heap.size,0,none⟩) 1 1) (ag (some ⟨E.heap.size,0,none⟩) 2 2);have dm:w.heap.size<E.heap.size:=a2.out.lt;have dn:=ax.out.lt;have cC:=aS.out.lt;have bO:h7 E.heap.size=none:=bI aT.out.I _ (an _);have cl:h7 (E.heap.size+1)=none:=bI aT.out.I _ (by omega);generalize((((E.setCell ⟨w2.heap.size,0,none⟩ (af ae 21)).setCell ⟨w2.heap.size,1,none⟩ (ah A.text)).setCell ⟨w2.heap.size,2,none⟩ (ag (some ⟨am.heap.size,0,none⟩) 1 1)).setCell ⟨w2.heap.size,3,none⟩ (ag (some ⟨E.heap.size,0,none⟩) 2 2))=W at*;obtain⟨aO,bX,bS,bZ,bR⟩:=uQ (text:=A.text) (bl:=am.heap.size) (bk:=E.heap.size) (bY.alloc (au #[af ae 10,ah O.text,ag ac 1 aj,ag ab 0 ad,af ae 10,ah Y.text,ag aG 1 aL,ag aB 0 aJ] 26)) (bV.alloc (au #[af ae 10,ah O.text,ag ac 1 aj,ag ab 0 ad,af ae 10,ah Y.text,ag aG 1 aL,ag aB 0 aJ] 26)) ch.out ci.out (by exact(oO (fp _ _ _ (by rw[hz];exact cF.out))).trans ((cB _ (by have:=aN.out.lt;omega)).trans dq.out)) (by rw[←hz];unfold bi;rw[gL]) (by have:=ax.out.lt;omega) (by omega) (by exact dk.out) (by omega) (by exact dt.out) (by exact bO) (by have:=cF.out;omega);exact .inr ⟨aO,_,_,_,_,bX,bS,(b9.alloc (au #[af ae 10,ah O.text,ag ac 1 aj,ag ab 0 ad,af ae 10,ah Y.text,ag aG 1 aL,ag aB 0 aJ] 26)),bZ,(b0.alloc (au #[af ae 10,ah O.text,ag ac 1 aj,ag ab 0 ad,af ae 10,ah Y.text,ag aG 1 aL,ag aB 0 aJ] 26)),(bR _ (by omega) (by omega)).trans ce.out⟩
    case measure=>have bN:=((aS.out.aM aY.out (af ae 21) (ah A.text) (ag (some ⟨am.heap.size,0,none⟩) 1 1) (ag (some ⟨E.heap.size,0,none⟩) 2 2)).alloc (au #[af ae 10,ah O.text,ag ac 1 aj,ag ab 0 ad,af ae 10,ah Y.text,ag aG 1 aL,ag aB 0 aJ] 26)).left;have bL:=co.out;simp only[cL,bF]at bN bL;omega
   refine aZ.cons (o:=_) rfl (fun K G=> ?_) aZ.nil;go_simp;go_at_call 180;refine(uO h2 _ (by exact cS.out.I) p Y [] (by exact dC.out) k3 aQ.n1 aQ.n2 aQ.n3 aQ.n4 aQ.n5).mono ?_;rintro e E ⟨d5,rfl,h7,ak,bT,a1⟩;obtain⟨aG,aL,aB,aJ,rfl⟩:=zo a1;have aT:=aa (cS.out.call ak);have aS:=aa bT;have a2:=aa (c8.out.gW ak cc);have aM:=aa (de.out.gW ak aY.out);have a3:=aa (dG.out.gW ak dj.out);have ci:=aa a1;have ch:=aa (cD.out.mono ak.le);have ce:Hid (h7 w.heap.size=none):=(ak.aI _ c8.out.lt).trans cK.out;have cd:Hid (h7 w2.heap.size=none):=(ak.aI _ de.out.lt).trans cG.out;obtain⟨ct,cu,cv,cw⟩:=aM.out.jU;have dT:=aM.out.fz 0;have g1:=aM.out.fz 1;have dU:=aM.out.fz 2;have dW:=aM.out.fz 3;have cz:E.cell? ⟨aV,1,none⟩=some (ah A.lead):=a3.out.cl 1;have cA:E.cell? ⟨aV,2,none⟩=some (ah A.text):=a3.out.cl 2;have dY:=aM.out.lt;have dZ:=a3.out.lt;have d0:w2.heap.size<E.heap.size+1:=by omega
   have d1:aV<E.heap.size+1:=by omega
   clear ak bT a1;refine G.out _ _ (fun _=> ?_) ?_;·exact⟨ct,cu,cv,cw,cz,cA⟩
   clear G K;try simp only[bh,be,bf]
   refine cE (rs:=[4,8]) (by kernel_rfl) (by simp) ?_;refine aZ.cons (o:=_) rfl (fun K G=> ?_) ?_
   ·go_simp;refine G.out _ _ (fun _=> ?_) ?_;·go_keep
    clear G K;try simp only[bh,be,bf]
    refine cE (rs:=[8]) (by kernel_rfl) (by simp) ?_;refine aZ.cons (o:=_) rfl (fun K G=> ?_) aZ.nil;go_simp;refine G.out _ _ (fun _=> ?_) ?_;·go_keep
    clear G K;try simp only[bh,be,bf]
    refine iL (v:= ?_) 9 rfl (by kernel_rfl) (fun _ _ _ h=>h) (by rfl) (by go_keep) ?_ ?_
    rotate_left
    ·intro w aX;(try dsimp only at aX);simp only[nx];go_simp<;>with_reducible rfl
    simp only[nx,br,eV,dV,dJ,bh,be,bf];refine cE (rs:=[10]) (by kernel_rfl) (by simp) ?_;refine aZ.cons (o:=_) rfl (fun K G=> ?_) aZ.nil;go_simp;refine G.out _ _ (fun h=>absurd h (by decide)) ?_;clear G K;try simp only[bh,be,bf]
    refine lK (by kernel_rfl) ?_ _;simp only[NoPanic];go_wp2_with fail;go_roundw
    case rel=>
     have hz:(((((E.setCell ⟨w2.heap.size,0,none⟩ (af ae 21)).setCell ⟨w2.heap.size,1,none⟩ (ah A.text)).setCell ⟨w2.heap.size,2,none⟩ (ag (some ⟨E.heap.size,0,none⟩) 1 1)).setCell ⟨w2.heap.size,3,none⟩ (ag (some ⟨(E.heap.size+1),0,none⟩) 2 2))).heap.size=E.heap.size:=by simp[ef]
     have cB:∀b,b≠w2.heap.size→bi (((((E.setCell ⟨w2.heap.size,0,none⟩ (af ae 21)).setCell ⟨w2.heap.size,1,none⟩ (ah A.text)).setCell ⟨w2.heap.size,2,none⟩ (ag (some ⟨E.heap.size,0,none⟩) 1 1)).setCell ⟨w2.heap.size,3,none⟩ (ag (some ⟨(E.heap.size+1),0,none⟩) 2 2))) b=bi E b:=fun b M=>by unfold bi;rw[cH _ _ _ _ M,cH _ _ _ _ M,cH _ _ _ _ M,cH _ _ _ _ M]
     have bY:=aT.out.aM (kB bp.out) cd.out (af ae 21) (ah A.text) (ag (some ⟨E.heap.size,0,none⟩) 1 1) (ag (some ⟨(E.heap.size+1),0,none⟩) 2 2);have bV:=aS.out.aM aY.out (af ae 21) (ah A.text) (ag (some ⟨E.heap.size,0,none⟩) 1 1) (ag (some ⟨(E.heap.size+1),0,none⟩) 2 2);have b9:=aM.out.mW (af ae 21) (ah A.text) (ag (some ⟨E.heap.size,0,none⟩) 1 1) (ag (some ⟨(E.heap.size+1),0,none⟩) 2 2);have b0:=a2.out.o4 (sP bp.out) (af ae 21) (ah A.text) (ag (some ⟨E.heap.size,0,none⟩) 1 1) (ag (some ⟨(E.heap.size+1),0,none⟩) 2 2);have dm:w.heap.size<E.heap.size:=a2.out.lt;have dn:=ax.out.lt;have cC:=aS.out.lt;have bO:h7 E.heap.size=none:=bI aT.out.I _ (an _);have cl:h7 (E.heap.size+1)=none:=bI aT.out.I _ (by omega);generalize((((E.setCell ⟨w2.heap.size,0,none⟩ (af ae 21)).setCell ⟨w2.heap.size,1,none⟩ (ah A.text)).setCell ⟨w2.heap.size,2,none⟩ (ag (some ⟨E.heap.size,0,none⟩) 1 1)).setCell ⟨w2.heap.size,3,none⟩ (ag (some ⟨(E.heap.size+1),0,none⟩) 2 2))=W at*;obtain⟨aO,bX,bS,bZ,bR⟩:=uQ (text:=A.text) (bl:=E.heap.size) (bk:=(E.heap.size+1)) ((bY.alloc (au #[ah A.lead] 9)).alloc (au #[af ae 10,ah O.text,ag ac 1 aj,ag ab 0 ad,af ae 10,ah Y.text,ag aG 1 aL,ag aB 0 aJ] 26)) ((bV.alloc (au #[ah A.lead] 9)).alloc (au #[af ae 10,ah O.text,ag ac 1 aj,ag ab 0 ad,af ae 10,ah Y.text,ag aG 1 aL,ag aB 0 aJ] 26)) ch.out ci.out (by rw[oO (fp _ _ _ (by simp[hz])),←hz];unfold bi;rw[gL]) (by rw[show E.heap.size+1=(W.alloc (au #[ah A.lead] 9)).heap.size by simp[hz]];unfold bi;rw[gL]) (by omega) (by omega) (by omega) (by omega) (by exact bO) (by exact cl) (by omega);exact .inr ⟨aO,_,_,_,_,bX,bS,((b9.alloc (au #[ah A.lead] 9)).alloc (au #[af ae 10,ah O.text,ag ac 1 aj,ag ab 0 ad,af ae 10,ah Y.text,ag aG 1 aL,ag aB 0 aJ] 26)),bZ,((b0.alloc (au #[ah A.lead] 9)).alloc (au #[af ae 10,ah O.text,ag ac 1 aj,ag ab 0 ad,af ae 10,ah Y.text,ag aG 1 aL,ag aB 0 aJ] 26)),(bR _ (by omega) (by omega)).trans ce.out⟩
    case measure=>have bN:=(((aS.out.aM aY.out (af ae 21) (ah A.text) (ag (some ⟨E.heap.size,0,none⟩) 1 1) (ag (some ⟨E.heap.size+1,0,none⟩) 2 2)).alloc (au #[ah A.lead] 9)).alloc (au #[af ae 10,ah O.text,ag ac 1 aj,ag ab 0 ad,af ae 10,ah Y.text,ag aG 1 aL,ag aB 0 aJ] 26)).left;have bL:=co.out;simp only[cL,bF]at bN bL;omega
   refine aZ.cons (o:=_) rfl (fun K G=> ?_) aZ.nil;go_simp;refine G.out _ _ (fun _=> ?_) ?_;·go_keep
   clear G K;try simp only[bh,be,bf]
   refine cE (rs:=[4]) (by kernel_rfl) (by simp) ?_;refine aZ.cons (o:=_) rfl (fun K G=> ?_) aZ.nil;go_simp;refine G.out _ _ (fun _=> ?_) ?_;·go_keep
   clear G K;try simp only[bh,be,bf]
   refine iL (v:= ?_) 9 rfl (by kernel_rfl) (fun _ _ _ h=>h) (by rfl) (by go_keep) ?_ ?_
   rotate_left
   ·intro w aX;(try dsimp only at aX);simp only[nx];go_simp<;>with_reducible rfl
   simp only[nx,br,eV,dV,dJ,bh,be,bf];refine cE (rs:=[10]) (by kernel_rfl) (by simp) ?_;refine aZ.cons (o:=_) rfl (fun K G=> ?_) aZ.nil;go_simp;refine G.out _ _ (fun h=>absurd h (by decide)) ?_;clear G K;try simp only[bh,be,bf]
   refine lK (by kernel_rfl) ?_ _;simp only[NoPanic];go_wp2_with fail;go_roundw
   case rel=>
    have hz:(((((E.setCell ⟨w2.heap.size,0,none⟩ (af ae 21)).setCell ⟨w2.heap.size,1,none⟩ (ah A.text)).setCell ⟨w2.heap.size,2,none⟩ (ag (some ⟨(E.heap.size+1),0,none⟩) 1 1)).setCell ⟨w2.heap.size,3,none⟩ (ag (some ⟨E.heap.size,0,none⟩) 2 2))).heap.size=E.heap.size:=by simp[ef]
    have cB:∀b,b≠w2.heap.size→bi (((((E.setCell ⟨w2.heap.size,0,none⟩ (af ae 21)).setCell ⟨w2.heap.size,1,none⟩ (ah A.text)).setCell ⟨w2.heap.size,2,none⟩ (ag (some ⟨(E.heap.size+1),0,none⟩) 1 1)).setCell ⟨w2.heap.size,3,none⟩ (ag (some ⟨E.heap.size,0,none⟩) 2 2))) b=bi E b:=fun b M=>by unfold bi;rw[cH _ _ _ _ M,cH _ _ _ _ M,cH _ _ _ _ M,cH _ _ _ _ M]
    have bY:=aT.out.aM (kB bp.out) cd.out (af ae 21) (ah A.text) (ag (some ⟨(E.heap.size+1),0,none⟩) 1 1) (ag (some ⟨E.heap.size,0,none⟩) 2 2);have bV:=aS.out.aM aY.out (af ae 21) (ah A.text) (ag (some ⟨(E.heap.size+1),0,none⟩) 1 1) (ag (some ⟨E.heap.size,0,none⟩) 2 2);have b9:=aM.out.mW (af ae 21) (ah A.text) (ag (some ⟨(E.heap.size+1),0,none⟩) 1 1) (ag (some ⟨E.heap.size,0,none⟩) 2 2);have b0:=a2.out.o4 (sP bp.out) (af ae 21) (ah A.text) (ag (some ⟨(E.heap.size+1),0,none⟩) 1 1) (ag (some ⟨E.heap.size,0,none⟩) 2 2);have dm:w.heap.size<E.heap.size:=a2.out.lt;have dn:=ax.out.lt;have cC:=aS.out.lt;have bO:h7 E.heap.size=none:=bI aT.out.I _ (an _);have cl:h7 (E.heap.size+1)=none:=bI aT.out.I _ (by omega);generalize((((E.setCell ⟨w2.heap.size,0,none⟩ (af ae 21)).setCell ⟨w2.heap.size,1,none⟩ (ah A.text)).setCell ⟨w2.heap.size,2,none⟩ (ag (some ⟨(E.heap.size+1),0,none⟩) 1 1)).setCell ⟨w2.heap.size,3,none⟩ (ag (some ⟨E.heap.size,0,none⟩) 2 2))=W at*;obtain⟨aO,bX,bS,bZ,bR⟩:=uQ (text:=A.text) (bl:=(E.heap.size+1)) (bk:=E.heap.size) ((bY.alloc (au #[af ae 10,ah O.text,ag ac 1 aj,ag ab 0 ad,af ae 10,ah Y.text,ag aG 1 aL,ag aB 0 aJ] 26)).alloc (au #[ah A.lead] 9)) ((bV.alloc (au #[af ae 10,ah O.text,ag ac 1 aj,ag ab 0 ad,af ae 10,ah Y.text,ag aG 1 aL,ag aB 0 aJ] 26)).alloc (au #[ah A.lead] 9)) ch.out ci.out (by rw[show E.heap.size+1=(W.alloc (au #[af ae 10,ah O.text,ag ac 1 aj,ag ab 0 ad,af ae 10,ah Y.text,ag aG 1 aL,ag aB 0 aJ] 26)).heap.size by simp[hz]];unfold bi;rw[gL]) (by rw[oO (fp _ _ _ (by simp[hz])),←hz];unfold bi;rw[gL]) (by omega) (by omega) (by omega) (by omega) (by exact cl) (by exact bO) (by omega);exact .inr ⟨aO,_,_,_,_,bX,bS,((b9.alloc (au #[af ae 10,ah O.text,ag ac 1 aj,ag ab 0 ad,af ae 10,ah Y.text,ag aG 1 aL,ag aB 0 aJ] 26)).alloc (au #[ah A.lead] 9)),bZ,((b0.alloc (au #[af ae 10,ah O.text,ag ac 1 aj,ag ab 0 ad,af ae 10,ah Y.text,ag aG 1 aL,ag aB 0 aJ] 26)).alloc (au #[ah A.lead] 9)),(bR _ (by omega) (by omega)).trans ce.out⟩
   case measure=>have bN:=(((aS.out.aM aY.out (af ae 21) (ah A.text) (ag (some ⟨E.heap.size+1,0,none⟩) 1 1) (ag (some ⟨E.heap.size,0,none⟩) 2 2)).alloc (au #[af ae 10,ah O.text,ag ac 1 aj,ag ab 0 ad,af ae 10,ah Y.text,ag aG 1 aL,ag aB 0 aJ] 26)).alloc (au #[ah A.lead] 9)).left;have bL:=co.out;simp only[cL,bF]at bN bL;omega
  ·have bd:=aa bv;have bm:=aa bg;have bG:=aa bE;have cj:=aa bC;have dE:=aa cV;clear bv bg bE bC cV;go_wp2_with fail;refine(Gt aO _ bm.out.I p bd.out).mono ?_;rintro e a9 ⟨rfl,M⟩;have bA:=aa (bm.out.call (bB.below bm.out.I M));have bz:=aa (bd.out.below M);have ax:=aa (cj.out.below M);have aN:=aa (bG.out.below M);clear M;go_wp2_with fail;refine(uP _ _).mono ?_;rintro e am ⟨rfl,rfl⟩;rw[show mV ⟨#[]⟩=false by decide];have dN:=ax.out.cl 0;have c1:=ax.out.cl 1;have c2:=ax.out.cl 2;have c3:=ax.out.cl 3;have ei:=ax.out.fz 0;have ej:=ax.out.fz 1;have ek:=ax.out.fz 2;have el:=ax.out.fz 3;have dO:=aN.out.cl 0;have dP:=aN.out.cl 1;have dQ:=aN.out.cl 2;have dR:=aN.out.cl 3;have es:=ax.out.lt;have cC:=aN.out.lt;simp only[bw,bc,bQ]at dN c1 c2 c3 dO dP dQ dR;go_wp2_with fail;obtain⟨d2,k1,k2,k3⟩:=(ax.out.mW (af ae 21) (ah A.text) (ag a5 1 a8) (ag a4 2 ck)).jU;refine bodyPost_ret (v:=aq #[af ae 21,ah A.text,ag a5 1 a8,ag a4 2 ck]) (by simp[results,Tryz.results134,go_sem,d2,k1,k2,k3]) rfl ⟨_,rfl,aO,bA.out.aM (an _) dv _ _ _ _,bz.out.aM cc _ _ _ _,dE.out⟩
theorem rW:eZ ai 24 9 1 16 [ah ⟨#[]⟩]:=
 .mk' (zv:=ah ⟨#[]⟩) Tryz.underlying24 (by kernel_rfl) rfl rfl (by decide) (by decide)
theorem zR(n:Nat)(Y:n≤1000000)(W:World):(Instr.makeSlice 24 (af ae (n:Int)) (af ae (n:Int))).run ai W= .ok (ag (some ⟨W.heap.size,0,none⟩) n n) (W.alloc (.cells (madeCells #[ah ⟨#[]⟩] (n*1)) 9)):=by
 obtain⟨i,zv,G,hz,M,E,O⟩:=rW.lJ
 have A:(i.bytes:Int)*(n:Int)≤281474976710656:=by
  rw[E];have:((16:Nat):Int)*(n:Int)≤281474976710656:=by omega
  exact this
 have:=run_make W 24 9 i zv rW.kL G hz ae ae (n:Int) (n:Int) (by omega) (by omega) A (by omega);rw[this,O,M];rfl
theorem zS{w:World}{g k b i:Nat}{v u:Value}(A:g≠b)(h:w.cell? ⟨b,i,none⟩=some v):(w.setCell ⟨g,k,none⟩ u).cell? ⟨b,i,none⟩=some v:=by rw[dc (a:=⟨b,i,none⟩) (cH _ _ _ _ (by exact fun e=>A e.symm))];exact h
theorem rX{w:World}{g k i:Nat}{v u:Value}(E:k≠i)(h:w.cell? ⟨g,i,none⟩=some v):(w.setCell ⟨g,k,none⟩ u).cell? ⟨g,i,none⟩=some v:=by have e:((⟨g,i,none⟩:Addr)=⟨g,k,none⟩)→False:=fun e=>E (by injection e with _ A;exact A.symm);rw[World.cell?_setCell_other _ _ _ _ (by first|exact e|exact fun q=>e q.symm)];exact h
theorem G8{h:Hp}{v:Value}{l:ByteArray}(T:aP h v (.node 5 ⟨#[]⟩ [l] [])):∃E G A ck,v=aq #[af ae 5,ah ⟨#[]⟩,ag E 1 G,ag A 0 ck]:=by obtain⟨_,_,_,_,_,e,_⟩:=T.open;exact⟨_,_,_,_,e⟩
theorem Ow.gW{p B k n:Nat}{h1 h2:Hp}{w1 w2:World}{e:TypeId}{v:Value}{xs:List Value}(o:Ow w1 h1 B e k v n xs)(s:bB p h1 w1 h2 w2)(E:∀g,v.ownBlock=some g→g≠p):Ow w2 h2 B e k v n xs:=
 o.U (fun g A=>s.gr.block g (o.lt g A).2 (fun e=>E g A (aU e))) (fun g A=>s.aI g (o.lt g A).2)
theorem Has.qj{w:World}{b:Nat}{c:Array Value}(x:Has w b c)(A:0<c.size):bi w b=some c:=by
 have h:=x.cl;unfold World.cell? at h;unfold bi;dsimp only at h;cases ho:w.heap[b]?with
 |none=>have:=h 0;rw[ho]at this;simp[A]at this
 |some o=>
  cases o with
  |cells c' t f=>simp only[ho]at h;have:c'=c:=Array.ext_getElem? (fun i=>by have:=h i;simpa using this);rw[this]
  |_=>have:=h 0;rw[ho]at this;simp[A]at this
theorem G9{h:Hp}{v:Value}{s l:ByteArray}{a b:Tree}(T:aP h v (.node 21 s [l] [a,b])):∃E G A ck,v=aq #[af ae 21,ah s,ag E 1 G,ag A 2 ck]:=by obtain⟨_,_,_,_,_,e,_⟩:=T.open;exact⟨_,_,_,_,e⟩
structure eb(p b1 b2 b3:Nat)(h:Hp)(w:World)(h':Hp)(w':World)(ts:List cU)(k:Int)(name:ByteArray)(n:Nat)(ls:Array Value)(kids:Value):Prop where
 st:bB p h w h' w'
 par:bJ h' w' p ts
 x:Has w' b1 #[af ae 0,ah ⟨#[]⟩,ag none 0 0,ag none 0 0]
 r:Has w' b2 ls
 b:Has w' b3 #[af ae k,ah name,ag (some ⟨b2,0,none⟩) n n,kids]
 n1:h' b1=none
 n2:h' b2=none
 n3:h' b3=none
 g1:w.heap.size≤b1
 g2:w.heap.size≤b2
 g3:w.heap.size≤b3
 p1:b1≠p
 p2:b2≠p
 p3:b3≠p
 d12:b1≠b2
 d13:b1≠b3
 d23:b2≠b3
section
variable {p b1 b2 b3:Nat} {h h1 h2:Hp} {w w1 w2:World} {ts zT:List cU} {k:Int} {name:ByteArray} {n:Nat} {ls:Array Value} {kids:Value}
theorem eb.call(D:eb p b1 b2 b3 h w h1 w1 ts k name n ls kids)(s:bB p h1 w1 h2 w2)(q:bJ h2 w2 p zT):eb p b1 b2 b3 h w h2 w2 zT k name n ls kids:=
 ⟨D.st.call s,q,D.x.gW s D.p1,D.r.gW s D.p2,D.b.gW s D.p3,(s.aI _ D.x.lt).trans D.n1,(s.aI _ D.r.lt).trans D.n2,(s.aI _ D.b.lt).trans D.n3,D.g1,D.g2,D.g3,D.p1,D.p2,D.p3,D.d12,D.d13,D.d23⟩
theorem eb.drew(D:eb p b1 b2 b3 h w h1 w1 ts k name n ls kids):eb p b1 b2 b3 h w h1 w1.drew ts k name n ls kids:=
 ⟨D.st.drew,D.par.drew,D.x.drew,D.r.drew,D.b.drew,D.n1,D.n2,D.n3,D.g1,D.g2,D.g3,D.p1,D.p2,D.p3,D.d12,D.d13,D.d23⟩
theorem eb.lead(D:eb p b1 b2 b3 h w h1 w1 ts k name n ls kids)(i:Nat)(A:i<ls.size)(v:Value):eb p b1 b2 b3 h w h1 (w1.setCell ⟨b2,i,none⟩ v) ts k name n (ls.setIfInBounds i v) kids:=
 ⟨D.st.set (q:=⟨b2,i,none⟩) (.inl D.g2) D.n2 v,D.par.set (a:=⟨b2,i,none⟩) D.p2 v,D.x.ne (fun e=>D.d12 e.symm) i v,D.r.hU i A v,D.b.ne D.d23 i v,D.n1,D.n2,D.n3,D.g1,D.g2,D.g3,D.p1,D.p2,D.p3,D.d12,D.d13,D.d23⟩
theorem eb.named(D:eb p b1 b2 b3 h w h1 w1 ts k name n ls kids)(s:ByteArray):eb p b1 b2 b3 h w h1 (w1.setCell ⟨b3,1,none⟩ (ah s)) ts k s n ls kids:=
 ⟨D.st.set (q:=⟨b3,1,none⟩) (.inl D.g3) D.n3 _,D.par.set (a:=⟨b3,1,none⟩) D.p3 _,D.x.ne (fun e=>D.d13 e.symm) 1 _,D.r.ne (fun e=>D.d23 e.symm) 1 _,D.b.hU 1 (by simp) _,D.n1,D.n2,D.n3,D.g1,D.g2,D.g3,D.p1,D.p2,D.p3,D.d12,D.d13,D.d23⟩
theorem eb.alloc(D:eb p b1 b2 b3 h w h1 w1 ts k name n ls kids)(o:Obj):eb p b1 b2 b3 h w h1 (w1.alloc o) ts k name n ls kids:=
 ⟨D.st.alloc o,D.par.alloc o,D.x.alloc o,D.r.alloc o,D.b.alloc o,D.n1,D.n2,D.n3,D.g1,D.g2,D.g3,D.p1,D.p2,D.p3,D.d12,D.d13,D.d23⟩
theorem Has.uZ{b:Nat}{c:Array Value}{E:Option Nat}(x:Has w1 b c)(A:w1.grownBy w2 E)(G:E≠some b):Has w2 b c:=by have e:=A.block b x.lt (fun e=>G e.symm);exact⟨Nat.lt_of_lt_of_le x.lt A.size,fun o=>(dc (a:=⟨b,o,none⟩) e).trans (x.cl o),fun o=>(World.frozen?_of_block (a:=⟨b,o,none⟩) e).trans (x.fz o)⟩
theorem eb.grown{M:Option Nat}(D:eb p b1 b2 b3 h w h1 w1 ts k name n ls kids)(A:w1.grownBy w2 M)(E:∀g,M=some g→g≠b1∧g≠b2∧g≠b3∧g≠p∧h1 g=none∧w.heap.size≤g):eb p b1 b2 b3 h w h1 w2 ts k name n ls kids:=
 ⟨⟨kc D.st.gr A (fun g e=> .inr (E g e).2.2.2.2.2),D.st.I.U fun b c G=>A.block b (cD (D.st.I b c G)) (fun e=>by rw[(E b e.symm).2.2.2.2.1]at G;cases G),D.st.le,D.st.aI⟩,
  D.par.U (A.block p D.par.lt (fun e=>(E p e.symm).2.2.2.1 rfl)) A.size (Hp.le_refl _) D.par.no,
  D.x.uZ A (fun e=>(E b1 e).1 rfl),D.r.uZ A (fun e=>(E b2 e).2.1 rfl),D.b.uZ A (fun e=>(E b3 e).2.2.1 rfl),D.n1,D.n2,D.n3,D.g1,D.g2,D.g3,D.p1,D.p2,D.p3,D.d12,D.d13,D.d23⟩
theorem eb.b4(D:eb p b1 b2 b3 h w h1 w1 ts k name n ls kids)(v:Value):eb p b1 b2 b3 h w h1 (w1.setCell ⟨b3,3,none⟩ v) ts k name n ls v:=
 ⟨D.st.set (q:=⟨b3,3,none⟩) (.inl D.g3) D.n3 _,D.par.set (a:=⟨b3,3,none⟩) D.p3 _,D.x.ne (fun e=>D.d13 e.symm) 3 _,D.r.ne (fun e=>D.d23 e.symm) 3 _,D.b.hU 3 (by simp) _,D.n1,D.n2,D.n3,D.g1,D.g2,D.g3,D.p1,D.p2,D.p3,D.d12,D.d13,D.d23⟩
end
def jW(k:Int):Bool:=decide (5≤k)&&decide (k≤9)
def fj(k:Int):Bool:=decide (10≤k)&&(decide (k≤22)&& !decide (k=17))
def gI(k:Int):Bool:=fj k&&(!decide (k=19)&&(!decide (k=20)&& !decide (k=21)))
def nf(k:Int)(s:ByteArray):Bool:=
 if k=1∨k=3 then decide (ke s=2)
 else if k=2∨k=4∨k=12∨k=20 then decide (ke s=1)
 else if k=9 then decide (ke s=2)||decide (ke s=4)
 else if k=16 then decide (ke s=1)||decide (ke s=3)
 else if k=10 then decide (ke s=5)
 else if k=11 then decide (ke s=6)
 else if k=21 then mV s
 else s.toList.isEmpty
def jb(k:Int)(n i:Nat)(kk:Int):Bool:=
 if k=1 then decide (kk=2)||decide (kk=3)
 else if k=2 then(if i+1=n then fj kk else if i+2=n then jW kk else decide (kk=4))
 else if k=3∨k=4∨k=8 then jW kk
 else if k=16 then decide (kk=17)
 else if k=21 then gI kk||(decide (i=0)&&decide (kk=21))
 else fj kk
theorem Hq{a b:Int}(h:a≠b):(a !=b)=true:=by simp[h]
theorem Hr{a b:Int}(h:a=b):(a !=b)=false:=by simp[h]
theorem Hs(k:Int)(w:World):Calls ai 139 #[af ae k] w fun e w'=>e= .returned (ay (jW k))∧w'=w:=by
 go_enter Tryz.func139,Tryz.ntmps139;go_wp2_with fail
 all_goals
  go_ret;refine⟨pK ?_,rfl⟩;try simp only[beq_iff_eq,beq_eq_false_iff_ne,bne_iff_ne,ne_eq,decide_eq_true_eq,decide_eq_false_iff_not]at*
  rw[pg];simp[jW];try omega
theorem z8(k:Int)(w:World):Calls ai 138 #[af ae k] w fun e w'=>e= .returned (ay (fj k))∧w'=w:=by
 go_enter Tryz.func138,Tryz.ntmps138;go_wp2_with fail
 all_goals
  go_ret;refine⟨pK ?_,rfl⟩;try simp only[beq_iff_eq,beq_eq_false_iff_ne,bne_iff_ne,ne_eq,decide_eq_true_eq,decide_eq_false_iff_not]at*
  rw[pg];simp[fj];try omega
theorem Ht(k:Int)(w:World):Calls ai 140 #[af ae k] w fun e w'=>e= .returned (ay (gI k))∧w'=w:=by
 go_enter Tryz.func140,Tryz.ntmps140;go_wp2_with(go_at_call 138;refine(z8 _ _).mono ?_;rintro e w1 ⟨rfl,rfl⟩)
 all_goals
  go_ret;refine⟨pK ?_,rfl⟩;try simp only[beq_iff_eq,beq_eq_false_iff_ne,bne_iff_ne,ne_eq,decide_eq_true_eq,decide_eq_false_iff_not]at*
  rw[pg];simp[gI, *];try omega
theorem Hu(k:Int)(s:ByteArray)(A:s.size≤140737488355328)(w:World):Calls ai 97 #[af ae k,ah s] w fun e w'=>e= .returned (ay (nf k s))∧w'=w:=by
 go_enter Tryz.func97,Tryz.ntmps97;go_wp2_with(first|(go_at_call 136;refine(DW _ s A).mono ?_;rintro e w1 ⟨rfl,rfl⟩)|(go_at_call 137;refine(uP _ s).mono ?_;rintro e w1 ⟨rfl,rfl⟩))
 all_goals
  go_ret;refine⟨pK ?_,rfl⟩;try simp only[beq_iff_eq,beq_eq_false_iff_ne,ne_eq]at*
  rw[pg];simp[nf, *];try omega
theorem Hv(h:Hp)(w:World)(aj:ao h w)(v:Value)(t:Tree)(ax:aP h v t)(i:Nat)(ak:i<t.kids.length):Calls ai 98 #[v,af ae i] w fun e w'=>e= .returned (ay (jb t.kind t.kids.length i t.kids[i].kind))∧Below w.heap.size w w':=by
 obtain⟨A,E,aO,ck,a5,rfl,aL,a1,aZ,aM,am,ad⟩:=ax.open;obtain⟨b,M,aS,aV,aQ,aT,rfl,aJ,Y,-,-,-,-⟩:=j9 am ad aj i ak;clear aj ax aM am ad;generalize t.kids[i].kind=a2 at Y⊢;generalize t.kids.length=n at*;generalize t.kind=k at*;generalize t.text=O at*;generalize t.leads.length=G at*;have a3:(0:Int)≤(i:Int):=by omega
 have a4:(i:Int)<(n:Int):=by omega
 clear aL ak;have ac:∀o,w.cell? ⟨b,o,none⟩=(w.alloc (.cells #[af ae k,ah O,ag A G E,ag (some ⟨b,M,none⟩) n ck] 26)).cell? ⟨b,o,none⟩:=fun o=>by rw[World.cell?_alloc_past _ _ _ (by exact aJ)]
 rw[ac]at Y;clear ac;have X:∀o,(w.alloc (.cells #[af ae k,ah O,ag A G E,ag (some ⟨b,M,none⟩) n ck] 26)).cell? ⟨w.heap.size,o,none⟩=(#[af ae k,ah O,ag A G E,ag (some ⟨b,M,none⟩) n ck]:Array Value)[o]? :=fun o=>by rw[World.cell?_alloc_at _ _ _ _ rfl]
 have aB:=X 0;have aG:=X 3;simp only[bw,bc,bQ]at aB aG;have ab:Hid (Below w.heap.size w (w.alloc (.cells #[af ae k,ah O,ag A G E,ag (some ⟨b,M,none⟩) n ck] 26))):=(aD _ _).alloc (an _) _;clear X;have q1:=bA (n:=(n:Int)-1) (by omega);have aN:=bA (n:=(n:Int)-2) (by omega);go_enter Tryz.func98,Tryz.ntmps98
 go_wp2_with(first
  |(go_at_call 138;refine(z8 _ _).mono ?_;rintro e w1 ⟨rfl,rfl⟩)
  |(go_at_call 139;refine(Hs _ _).mono ?_;rintro e w1 ⟨rfl,rfl⟩)
  |(go_at_call 140;refine(Ht _ _).mono ?_;rintro e w1 ⟨rfl,rfl⟩))
 all_goals
  go_ret;refine⟨pK ?_,ab.out⟩;clear q1 aN aB aG Y ab;try simp only[beq_iff_eq,beq_eq_false_iff_ne,ne_eq]at*
  rw[pg];have aX:(i+1=n)=((i:Int)=n-1):=propext (by omega);have aY:(i+2=n)=((i:Int)=n-2):=propext (by omega);simp[jb, *];try omega
mutual
def ep:Tree→Bool
 | .node k s _ ks=>decide (0≤b9 k ks.length)&&(nf k s&&fZ k ks.length 0 ks)
def fZ(k:Int)(n:Nat):Nat→List Tree→Bool
 |_,[]=>true
 |i,t::ts=>jb k n i t.kind&&(ep t&&fZ k n (i+1) ts)
end
theorem r4(t:Tree):ep t=(decide (0≤b9 t.kind t.kids.length)&&(nf t.kind t.text&&fZ t.kind t.kids.length 0 t.kids)):=by cases t;rw[ep];rfl
mutual
def Tree.texts:Tree→Prop
 | .node _ s _ ks=>s.size≤140737488355328∧lq ks
def lq:List Tree→Prop
 |[]=>True
 |t::ts=>t.texts∧lq ts
end
theorem Tree.Aa(t:Tree):t.texts↔t.text.size≤140737488355328∧lq t.kids:=by cases t;rw[Tree.texts];rfl
theorem Ab:∀{ts:List Tree} (_:lq ts) {i:Nat} (A:i<ts.length),ts[i].texts
 |t::ts,h,0,_=>by rw[lq]at h;exact h.1
 |t::ts,h,i+1,A=>by rw[lq]at h;exact Ab h.2 (by simpa using A)
theorem Hw(k:Int)(n:Nat)(ts:List Tree)(i:Nat)(A:i<ts.length)(j:Nat):fZ k n j (ts.drop i)=(jb k n j ts[i].kind&&(ep ts[i]&&fZ k n (j+1) (ts.drop (i+1)))):=by rw[jh A,fZ]
theorem Hx(m:Nat):∀(t:Tree) (_:t.size≤m) (_:t.texts) (h:Hp) (w:World) (_:ao h w) (v:Value) (_:aP h v t),Calls ai 46 #[v] w fun e w'=>e= .returned (ay (ep t))∧Below w.heap.size w w':=by
 induction m with
 |zero=>intro t cu;have:=t.size_eq;omega
 |succ m bq=>
  intro t cg a2 h w ba v a1;have bI:=aa a1;have bG:=aa ba;have bN:=aa bq;have bL:=aa a2;have hz:=Tree.size_eq t;rw[hz]at cg;have ch:=((Tree.Aa t).1 a2).1;obtain⟨O,ac,aj,ck,cA,rfl,cq,ct,ce,cf,bm,a9⟩:=a1.open;have bH:=aa bm;have bE:=aa a9;clear bq a1 hz ba bm cf a9 a2;have A:=aa (r4 t);go_enter Tryz.func46,Tryz.ntmps46;go_wp2_with fail;refine(Ho t.kind t.kids.length ce _).mono ?_;rintro e w1 ⟨rfl,a3⟩;obtain rfl:=a3.symm;have E:Hid (Has (w.alloc (.cells #[af ae t.kind,ah t.text,ag O t.leads.length ac,ag aj t.kids.length ck] 26)) w.heap.size #[af ae t.kind,ah t.text,ag O t.leads.length ac,ag aj t.kids.length ck]):=Has.new _ _ _;have B0:Hid (Below w.heap.size w (w.alloc (.cells #[af ae t.kind,ah t.text,ag O t.leads.length ac,ag aj t.kids.length ck] 26))):=(aD _ _).alloc (an _) _;generalize w.alloc (.cells #[af ae t.kind,ah t.text,ag O t.leads.length ac,ag aj t.kids.length ck] 26)=w0 at E B0⊢;have ax:=E.out.cl 1;have am:=E.out.cl 0;have aB:=E.out.cl 3;simp only[bw,bc,bQ]at am ax aB;have ci:=E.out.lt;by_cases bd:b9 t.kind t.kids.length<0
  ·have H:Hid (ep t=false):=by unfold Hid;rw[A.out,decide_eq_false (by omega),oD]
   generalize b9 t.kind t.kids.length=z at bd⊢;go_wp2_with fail;go_ret;rw[H.out];exact⟨rfl,B0.out⟩
  ·have bg:0≤b9 t.kind t.kids.length:=by omega
   have aQ:Hid (ep t=(nf t.kind t.text&&fZ t.kind t.kids.length 0 t.kids)):=by unfold Hid;rw[A.out,decide_eq_true bg,sQ]
   generalize b9 t.kind t.kids.length=z at bd bg⊢;clear A;go_wp2_with fail;refine(Hu t.kind t.text ch _).mono ?_;rintro e w1 ⟨rfl,a3⟩;obtain rfl:=a3.symm;obtain⟨b,aX⟩:∃b,nf t.kind t.text=b:=⟨_,rfl⟩
   rw[aX];have aN:=aa aX;clear aX;cases b
   ·have H:Hid (ep t=false):=by unfold Hid;rw[aQ.out,aN.out,oD]
    go_wp2_with fail;go_ret;rw[H.out];exact⟨rfl,B0.out⟩
   ·have bS:Hid (ep t=fZ t.kind t.kids.length 0 (t.kids.drop 0)):=by unfold Hid;rw[aQ.out,aN.out,sQ,List.drop_zero]
    clear aQ aN;go_wp2_with fail;go_loopw[2,3,4,23,24,25,26,27,28,29,30,31,32,33,34,35,36,37] (fun _ _ _ i _ _ _ _ _ _ _ _ _ _ _ _ _ _ wr=>∃(j:Nat),j≤t.kids.length∧i=af ae j∧ep t=fZ t.kind t.kids.length j (t.kids.drop j)∧Has wr w.heap.size #[af ae t.kind,ah t.text,ag O t.leads.length ac,ag aj t.kids.length ck]∧Below w.heap.size w wr) (fun _ _ _ i _ _ _ _ _ _ _ _ _ _ _ _ _ _ _=>t.kids.length-(intOf i).toNat);case atStart=>exact⟨0,aW _,rfl,bS.out,E.out,B0.out⟩
    case round=>
     obtain⟨j,co,rfl,ak,xb,bl⟩:=hrel;clear am ax aB ci E B0;by_cases hj:j<t.kids.length
     ·rw[Hw _ _ _ _ hj]at ak;have a4:=bG.out.below bl;obtain⟨b,cm,Y,ad,M,ab,rfl,cn,bY,bZ,b0,cc,bp⟩:=j9 bH.out bE.out a4 j hj;have am:=xb.cl 0;have ax:=xb.cl 1;have bv:=xb.cl 2;have aB:=xb.cl 3;simp only[bw,bc,bQ]at am ax bv aB;have cj:=xb.lt;have cv:(0:Int)≤(j:Int):=by omega
      have cw:(j:Int)<(t.kids.length:Int):=by omega
      have A:=aa ak;have bJ:=aa bp;have bT:=aa xb;have aG:=aa bl;have bO:=aa a4;clear ak bp xb bl a4;go_wp2_with fail;have aT:Hid (Has (wr.alloc (.cells #[af ae t.kids[j].kind,ah t.kids[j].text,ag Y t.kids[j].leads.length ad,ag M t.kids[j].kids.length ab] 26)) wr.heap.size #[af ae t.kids[j].kind,ah t.kids[j].text,ag Y t.kids[j].leads.length ad,ag M t.kids[j].kids.length ab]):=Has.new _ _ _;have aS:Hid (Has (wr.alloc (.cells #[af ae t.kids[j].kind,ah t.kids[j].text,ag Y t.kids[j].leads.length ad,ag M t.kids[j].kids.length ab] 26)) w.heap.size #[af ae t.kind,ah t.text,ag O t.leads.length ac,ag (some ⟨b,cm,none⟩) t.kids.length ck]):=bT.out.alloc _;have aJ:Hid (Below w.heap.size w (wr.alloc (.cells #[af ae t.kids[j].kind,ah t.kids[j].text,ag Y t.kids[j].leads.length ad,ag M t.kids[j].kids.length ab] 26))):=aG.out.alloc aG.out.size _;have aL:Hid (ao h (wr.alloc (.cells #[af ae t.kids[j].kind,ah t.kids[j].text,ag Y t.kids[j].leads.length ad,ag M t.kids[j].kids.length ab] 26))):=bO.out.alloc _;clear bY bZ b0 cc am ax bv aB cj;generalize wr.alloc (.cells #[af ae t.kids[j].kind,ah t.kids[j].text,ag Y t.kids[j].leads.length ad,ag M t.kids[j].kids.length ab] 26)=w2 at aT aS aJ aL⊢;refine(Hv h _ aL.out _ t bI.out j hj).mono ?_;rintro e w3 ⟨rfl,b3⟩;have G:=aT.out.below b3;have bV:=aa (aS.out.below b3);have aM:=aa (aJ.out.trans (b3.mono aJ.out.size));have bR:=aa (aL.out.below b3);have bz:=G.cl 0;have bA:=G.cl 1;have bB:=G.cl 2;have bC:=G.cl 3;simp only[bw,bc,bQ]at bz bA bB bC;have cl:=G.lt;obtain⟨kb,aY⟩:∃kb,jb t.kind t.kids.length j t.kids[j].kind=kb:=⟨_,rfl⟩
      rw[aY];have aO:=aa aY;clear aY aT aS aJ aL G b3;cases kb
      ·have H:Hid (ep t=false):=by unfold Hid;rw[A.out,aO.out,oD]
       go_wp2_with fail;go_ret;rw[H.out];exact⟨rfl,aM.out⟩
      ·have cd:t.kids[j].size≤m:=by have:=dB (aK hj);omega
       go_wp2_with fail;refine(bN.out t.kids[j] cd (Ab ((Tree.Aa t).1 bL.out).2 hj) h _ bR.out _ bJ.out).mono ?_;rintro e cz ⟨rfl,aV⟩;have bX:=aa (bV.out.below aV);have a5:=aa (aM.out.trans (aV.mono aM.out.size));obtain⟨sb,aZ⟩:∃sb,ep t.kids[j]=sb:=⟨_,rfl⟩
       rw[aZ];have a8:=aa aZ;clear aZ aV bz bA bB bC cl;cases sb
       ·have H:Hid (ep t=false):=by unfold Hid;rw[A.out,aO.out,a8.out,oD,Bool.and_false]
        go_wp2_with fail;go_ret;rw[H.out];exact⟨rfl,a5.out⟩
       ·go_wp2_with fail;go_roundw;case rel=>exact⟨j+1,by omega,by go_num,by rw[A.out,aO.out,a8.out,sQ,sQ],bX.out,a5.out⟩
        case measure=>simp[intOf];omega
     ·have H:Hid (ep t=true):=by unfold Hid;rw[ak,show t.kids.drop j=[]from oz (by omega),fZ]
      have aG:=aa bl;clear ak xb bl;go_wp2_with fail;go_ret;rw[H.out];exact⟨rfl,aG.out⟩
def jc(l:List Tree):Bool:=l.all fun t=>decide (t.kind=1)&&ep t
theorem Ac(h:Hp)(w:World)(aM:ao h w)(v:Value)(l:List Tree)(a2:hQ h v l)(aO:∀t∈l,t.texts):Calls ai 22 #[v] w fun e w'=>e= .returned (ay (jc l))∧Below w.heap.size w w':=by
 obtain⟨cs,ac,aJ⟩:=a2;obtain⟨a,a4,rfl,bg⟩:=ac.shape;have aV:=aa ac;have aQ:=aa aJ;have aS:=aa aM;have aX:=aa aO;clear ac aJ aM aO;go_enter Tryz.func22,Tryz.ntmps22;go_wp2_with fail;go_loopw[2,4,7,8,9,10,11,12,13,14,15,16,17,18,19] (fun _ _ i _ _ _ _ _ _ _ _ _ _ _ _ wr=>∃(j:Nat),j≤l.length∧i=af ae j∧jc l=jc (l.drop j)∧Below w.heap.size w wr) (fun _ _ i _ _ _ _ _ _ _ _ _ _ _ _ _=>l.length-(intOf i).toNat);case atStart=>exact⟨0,aW _,rfl,rfl,aD _ _⟩
 case round=>
  obtain⟨j,bd,rfl,M,bl⟩:=hrel;by_cases hj:j<l.length
  ·have aN:jc l=((decide (l[j].kind=1)&&ep l[j])&&jc (l.drop (j+1))):=by rw[M,jh hj];rfl
   have ab:=aS.out.below bl;obtain⟨b,bm,am,aG,ak,aB,rfl,ba,a1,a5,a8,a9,aP⟩:=j9 aV.out aQ.out ab j hj;have O:=aa aN;have aj:=aa aP;have A:=aa bl;have aZ:=aa ab;have bp:(0:Int)≤(j:Int):=by omega
   have bq:(j:Int)<(l.length:Int):=by omega
   have aY:=aa (aX.out l[j] (aK hj));clear M aN aP bl ab;by_cases E:l[j].kind=1
   ·have aT:=aa E;have g1:=Hr E;have aL:l[j].kind=1:=E;clear E;rw[aL]at a1 aj g1;clear aL;go_wp2_with fail;refine(Hx l[j].size l[j] (an _) aY.out h _ (by exact aZ.out.alloc _) _ (by exact aj.out)).mono ?_;rintro e a3 ⟨rfl,ax⟩;have G:Hid (Below w.heap.size w a3):=(A.out.alloc A.out.size (.cells #[af ae 1,ah l[j].text,ag am l[j].leads.length aG,ag ak l[j].kids.length aB] 26)).trans (ax.mono (by have:=A.out.size;simp;omega));obtain⟨sb,Y⟩:∃sb,ep l[j]=sb:=⟨_,rfl⟩
    rw[Y];have ad:=aa Y;clear Y ax;cases sb
    ·have H:Hid (jc l=false):=by unfold Hid;rw[O.out,ad.out,Bool.and_false,oD]
     go_wp2_with fail;go_ret;rw[H.out];exact⟨rfl,G.out⟩
    ·go_wp2_with fail;go_roundw;case rel=>exact⟨j+1,by omega,by go_num,by rw[O.out,aT.out,ad.out];rfl,G.out⟩
     case measure=>simp[intOf];omega
   ·have H:Hid (jc l=false):=by unfold Hid;rw[O.out,decide_eq_false E,oD,oD]
    have g1:=Hq E;have G:Hid (Below w.heap.size w (wr.alloc (.cells #[af ae l[j].kind,ah l[j].text,ag am l[j].leads.length aG,ag ak l[j].kids.length aB] 26))):=A.out.alloc A.out.size _;clear E;go_wp2_with fail;go_ret;rw[H.out];exact⟨rfl,G.out⟩
  ·have H:Hid (jc l=true):=by unfold Hid;rw[M,show l.drop j=[]from oz (by omega)];rfl
   have A:=aa bl;clear M bl;go_wp2_with fail;go_ret;rw[H.out];exact⟨rfl,A.out⟩
end Go.Proofs.YtdplggpbgommnaaGreatDoor
