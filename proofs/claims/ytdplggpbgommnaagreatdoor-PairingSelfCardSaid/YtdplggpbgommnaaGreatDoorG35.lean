/- semvcsmake.Module. -/
import Derived.Test.YtdplggpbgommnaaGreatDoorG34
import Derived.Test.YtdplggpbgommnaaGreatDoorKm
open Go renaming bodyPost_ret→aF
open Go.Act renaming put→br
open Go.IntKind renaming i64→ae
open Go.Lib renaming PrintTabs→fq,hid→aa
open Go.Proofs.Tryz renaming func6→sU,prog→ai
open Go.RowKit.Below renaming refl→aD
open Go.Value renaming agg→aq,int→af,slice→ag,string→ah
open List renaming length_nil→cL,mem_append→ev,mem_singleton→eR,setIfInBounds_toArray→bh,set_cons_succ→bf,set_cons_zero→be
open List.cons renaming injEq→ii
open Nat renaming le_refl→an,le_succ→my,zero_le→aW
set_option maxRecDepth 100000
set_option maxHeartbeats 8000000
namespace Go.Proofs.YtdplggpbgommnaaGreatDoor
open Go.RowKit
theorem aL.Bb{g:Nat}{D:List Int}{h h':Hp}{w w':World}{n:Nat}(d:cA h w g D n)(s:St w.heap.size h w h' w'):aL g D h w h' w':=
 ⟨⟨s.below.os,s.below.tape,s.below.output,s.below.size,fun k A _=>s.below.block k A⟩,s.I,s.le,s.aI,d.lt,n,d.U (s.below.block _ d.lt) s.below.size s.le ((s.aI _ d.lt).trans d.free)⟩
structure ht(g:Nat)(D:List Int)(nm:ByteArray)(h:Hp)(w:World)(h1:Hp)(wr:World)(n:Nat)(v:Value)(xs:List Value):Prop where
 ds:aL g D h w h1 wr
 rb:Has wr w.heap.size #[af ae 0,ah ⟨#[]⟩,ag none 0 0,ag none 0 0]
 rn:h1 w.heap.size=none
 tb:Has wr (w.heap.size+1) #[af ae 1,ah nm,ag none 0 0,v]
 tn:h1 (w.heap.size+1)=none
 row:Ow wr h1 (w.heap.size+2) 26 4 v n xs
 enc:∃ts,aJ (bg h1) ts xs∧ts.length=n∧∀d∈ts,MD d
section
variable {g:Nat} {D:List Int} {nm:ByteArray} {h h1 h2:Hp} {w wr w2:World} {n:Nat} {v:Value} {xs:List Value}
theorem ht.call(a:ht g D nm h w h1 wr n v xs)(s:aL g D h1 wr h2 w2):ht g D nm h w h2 w2 n v xs:=by have M:=a.ds.lt;obtain⟨ts,A,E,G⟩:=a.enc;exact⟨a.ds.call s,a.rb.dst s (by omega),(s.aI _ a.rb.lt).trans a.rn,a.tb.dst s (by omega),(s.aI _ a.tb.lt).trans a.tn,a.row.ss s (by omega),ts,A.mono fun _ _ r=>r.mono s.le,E,G⟩
theorem ht.drew(a:ht g D nm h w h1 wr n v xs):ht g D nm h w h1 wr.drew n v xs:=by obtain⟨n,d⟩:=a.ds.bj;exact a.call ((aL.refl a.ds.I d).drew)
theorem ht.alloc(a:ht g D nm h w h1 wr n v xs)(o:Obj):ht g D nm h w h1 (wr.alloc o) n v xs:=by obtain⟨n,d⟩:=a.ds.bj;exact a.call ((aL.refl a.ds.I d).alloc o)
theorem ht.vr(a:ht g D nm h w h1 wr n v xs):St (w.heap.size+2) h1 wr h1 wr:=St.dN a.ds.I (by have:=a.tb.lt;omega)
theorem ht.qp(a:ht g D nm h w h1 wr n v xs)(q:wr.grownBy w2 v.ownBlock):Has w2 (w.heap.size+1) #[af ae 1,ah nm,ag none 0 0,v]:=a.tb.grown q fun e=>by have:=(a.row.lt _ e).1;omega
theorem ht.next{v' E G M O:Value}{u:Tree}(a:ht g D nm h w h1 wr n v xs)(Y:Ow w2 h1 (w.heap.size+2) 26 4 v' (n+1) (xs++[E,G,M,O]))(q:wr.grownBy w2 v.ownBlock)(_bk:v'.ownBlock=v.ownBlock∨v'.ownBlock=some wr.heap.size)(ak:bg h1 u [E,G,M,O])(aj:MD u):ht g D nm h w h1 (w2.setCell ⟨w.heap.size+1,3,none⟩ v') (n+1) v' (xs++[E,G,M,O]):=by
 obtain⟨ts,ab,ac,ad⟩:=a.enc;have ao:=a.tb.lt;have rb:=a.rb.grown q fun e=>by have:=(a.row.lt _ e).1;omega
 have ds:=a.ds.grown q fun k e=>⟨by have:=(a.row.lt k e).1;omega,a.row.free k e⟩
 have am:v'.ownBlock≠some (w.heap.size+1):=fun e=>by have:=(Y.lt _ e).1;omega
 refine⟨ds.setCell (p:=⟨w.heap.size+1,3,none⟩) (my _) a.tn _,rb.ne (by omega) _ _,a.rn,?_,a.tn,Y.setCell am _,ts++[u],ab.append (aJ.one ak),by simp[ac],fun d A=> ?_⟩;·have:=(a.qp q).fg 3 (by simp) v';simpa using this
 ·rcases ev.1 A with A|A;·exact ad d A
  ·rw[eR.1 A];exact aj
end
def PM(t:Tree):Prop:=t.lb∧(MM t∨t.bare=ly)
def Bc(g:Nat)(D:List Int)(h:Hp)(w:World)(e:Ending)(w':World):Prop:=∃v,e= .returned v∧∃h' t',aL g D h w h' w'∧aP h' v t'∧PM t'
theorem Jh:ly.lb:=by rw[ly,Tree.lb,l6];exact⟨⟨by simp,fun s A=>by cases A⟩,trivial⟩
theorem Ji:ly.bare=ly:=by rw[ly,Tree.bare,aN]
theorem PM.of{t A:Tree}(E:MM t)(d:A5 t A):PM A:=by
 rcases d with⟨e,l⟩|rfl;·exact⟨l,.inl (E.same e)⟩
 ·exact⟨Jh,.inr Ji⟩
theorem PM.Jj{t A:Tree}(h:PM t)(e:A.bare=t.bare)(l:A.lb):PM A:=⟨l,h.2.imp (fun m=>m.same e) (fun b=>e.trans b)⟩
theorem PM.size{t:Tree}(h:PM t):t.size≤100000:=by
 rcases h.2 with m|b;·have:=m.size;omega
 ·have:=congrArg Tree.size b;rw[l3]at this;rw[this];simp[ly,Tree.size,ax]
structure l7(g:Nat)(D:List Int)(h:Hp)(w:World)(h1:Hp)(wr:World)(t:Tree)(a b c d:Value):Prop where
 ds:aL g D h w h1 wr
 rb:Has wr w.heap.size #[af ae 0,ah ⟨#[]⟩,ag none 0 0,ag none 0 0]
 rn:h1 w.heap.size=none
 tb:Has wr (w.heap.size+1) #[a,b,c,d]
 tn:h1 (w.heap.size+1)=none
 tv:aP h1 (aq #[a,b,c,d]) t
 pm:PM t
section
variable {g:Nat} {D:List Int} {h h1 h2:Hp} {w wr w2:World} {t u:Tree} {a b c d a' b' c' d':Value}
theorem l7.call(q:l7 g D h w h1 wr t a b c d)(s:aL g D h1 wr h2 w2):l7 g D h w h2 w2 t a b c d:=by have A:=q.ds.lt;exact⟨q.ds.call s,q.rb.dst s (by omega),(s.aI _ q.rb.lt).trans q.rn,q.tb.dst s (by omega),(s.aI _ q.tb.lt).trans q.tn,q.tv.mono s.le,q.pm⟩
theorem l7.make(ds:aL g D h w h1 wr)(rb:Has wr w.heap.size #[af ae 0,ah ⟨#[]⟩,ag none 0 0,ag none 0 0])(E:h1 w.heap.size=none)(G:Has wr (w.heap.size+1) #[a,b,c,d])(tn:h1 (w.heap.size+1)=none)(tv:aP h1 (aq #[a',b',c',d']) u)(A:PM u):l7 g D h w h1 ((((wr.setCell ⟨w.heap.size+1,0,none⟩ a').setCell ⟨w.heap.size+1,1,none⟩ b').setCell ⟨w.heap.size+1,2,none⟩ c').setCell ⟨w.heap.size+1,3,none⟩ d') u a' b' c' d':=
 ⟨ds.aM (my _) tn _ _ _ _,(((rb.ne (by omega) _ _).ne (by omega) _ _).ne (by omega) _ _).ne (by omega) _ _,E,G.aM _ _ _ _,tn,tv,A⟩
theorem l7.fin(q:l7 g D h w h1 wr t a b c d):Bc g D h w (.returned (aq #[a,b,c,d])) ((((wr.setCell ⟨w.heap.size,0,none⟩ a).setCell ⟨w.heap.size,1,none⟩ b).setCell ⟨w.heap.size,2,none⟩ c).setCell ⟨w.heap.size,3,none⟩ d):=
 ⟨_,rfl,h1,t,q.ds.aM (an _) q.rn _ _ _ _,q.tv,q.pm⟩
end
theorem Jk(g:Nat)(D:List Int)(nm:ByteArray)(cn:fu 1 nm=true)(cl:nm.size=1)(h:Hp)(w:World)(aY:ao h w)(dC:Nat)(d:cA h w g D dC):Calls ai 41 #[.pointer (some ⟨g,0,none⟩),ah nm] w (Bc g D h w):=by
 have dR:=aa aY;have cU:=aa cn;have cS:=aa cl
 have aV:Hid (ht g D nm h w h ((w.alloc (.cells #[af ae 0,ah ⟨#[]⟩,ag none 0 0,ag none 0 0] 26)).alloc (.cells #[af ae 1,ah nm,ag none 0 0,ag none 0 0] 26)) 0 (ag none 0 0) []):=
  ⟨((aL.refl aY d).alloc _).alloc _,(Has.new _ _ _).alloc _,bI aY _ (an _),Has.kY _ _ _ _,bI aY _ (by omega),Ow.nil _ _ _ _ _,[],by simp[aJ],rfl,fun d dt=>by cases dt⟩
 clear aY d cn cl;go_enter Tryz.func41,Tryz.ntmps41;go_wp2_with fail;generalize(w.alloc (.cells #[af ae 0,ah ⟨#[]⟩,ag none 0 0,ag none 0 0] 26)).alloc (.cells #[af ae 1,ah nm,ag none 0 0,ag none 0 0] 26)=w0 at aV⊢;obtain⟨bd,b9⟩:=aV.out.ds.bj;refine(dW h _ aV.out.ds.I g D bd b9 4 (by omega) (by omega)).mono ?_;rintro e w2 ⟨rfl,am⟩;have db:=jo D bd 4 (by omega);generalize a8 D bd 4=z at*;obtain⟨cq,rfl⟩:∃k:Nat,z=(k:Int):=⟨z.toNat,by omega⟩
 have d0:cq≤3:=by omega
 have bS:=aa (aV.out.call am);clear am aV b9 db;go_wp2_with fail;go_loopw[6,11,12,13,14,15,16,17,18,19,20,21] (fun i _ _ _ _ _ _ _ _ _ _ _ wr=>∃(k O:Nat) (h1:Hp) (v:Value) (xs:List Value),k+O≤3∧i=af ae k∧ht g D nm h w h1 wr O v xs) (fun i _ _ _ _ _ _ _ _ _ _ _ _=>(intOf i).toNat);case atStart=>exact⟨cq,0,h,_,_,by omega,rfl,bS.out⟩
 case round=>
  obtain⟨k,O,h1,v,xs,d1,rfl,a1⟩:=hrel;obtain⟨av,ak,rfl⟩:=a1.row.shape;have G:=aa a1;obtain⟨⟨aO,aQ,aS,aT⟩,-⟩:=a1.tb.four;have ax:=a1.tb.lt;clear a1 bS;by_cases dZ:0<k
  ·have dF:(0:Int)<(k:Int):=by omega
   go_upto_region 5 with fail;refine wp_region_noPanic ?_;refine nE (n:=7) (S:=fun w'=>w'.cell? ⟨w.heap.size+1,3,none⟩=some (ag av O ak)) (by kernel_rfl) ?_ (fun dY=> ?_);·go_keep
   simp only[Array.replicate,List.replicate,List.size_toArray,List.length_cons,cL,Nat.zero_add,Nat.reduceAdd]
   iterate 3
    refine iL (v:= ?_) 0 rfl (by kernel_rfl) (fun _ _ _ h=>h) (by rfl) (by assumption) ?_ ?_
    rotate_left
    ·intro w dk;(try dsimp only at dk);simp only[nx];go_simp<;>with_reducible rfl
    simp only[nx,br,List.getElem_toArray,List.getElem_cons_succ,List.getElem_cons_zero,bh,be,bf]
   refine cE (rs:=[3]) (by kernel_rfl) (by simp) ?_;refine aZ.cons (o:=_) rfl (fun K A=> ?_) aZ.nil;go_simp;go_at_call 80;obtain⟨nd,aj⟩:=G.out.drew.ds.bj;refine(CN h1 _ G.out.drew.ds.I g D nd aj).mono ?_;rintro e dN ⟨d6,rfl,h7,bv,cC,bN,cu⟩;obtain⟨c9,di,c6,dg,-,rfl,-,-,-,-,-,-⟩:=bN.open;have cM:=aa (dq bN);have cQ:=aa cu;have aX:=aa (G.out.drew.call cC);have dP:=aX.out.tb.cl 3;clear bN cC cu aj;refine A.out _ _ (fun _=> ?_) ?_;·exact dP
   clear A K;try simp only[bh,be,bf]
   refine cE (rs:=[4]) (by kernel_rfl) (by simp) ?_;refine aZ.cons (o:=_) rfl (fun K A=> ?_) aZ.nil;go_simp;refine A.out _ _ (fun _=> ?_) ?_;·go_keep
   clear A K;try simp only[bh,be,bf]
   refine cE (rs:=[5]) (by kernel_rfl) (by simp) ?_;refine aZ.cons (o:=_) rfl (fun K A=> ?_) aZ.nil;refine gS iJ (by rfl) _ _ (by rfl) (aX.out.alloc _).vr (ag av O ak) O xs (by rfl) (aX.out.alloc _).row ⟨dN.heap.size,0,none⟩ 1 1 [af ae bv.kind,ah bv.text,ag c9 bv.leads.length di,ag c6 bv.kids.length dg] (by rfl) (by rfl) (cK _ _ _ _ rfl) (cm _ rfl) (by omega) (by omega) ?_;intro dU cg dO dE cw bG bY;have cG:=aa ((aX.out.alloc _).next cw bG bY cM.out cQ.out);have a2:=(aX.out.alloc _).qp bG;have dQ:dO.cell? ⟨w.heap.size+1,3,none⟩=some (ag av O ak):=a2.cl 3;have dT:=a2.fz 3;have d2:=a2.lt;clear dE cw bG bY a2;refine A.out _ _ (fun _=> ?_) ?_;·exact dQ
   clear A K;try simp only[br,bh,be,bf]
   refine cE (rs:=[6]) (by kernel_rfl) (by simp) ?_;refine aZ.cons (o:=_) rfl (fun K A=> ?_) aZ.nil;go_simp;refine A.out _ _ (fun _=> ?_) ?_;·go_keep
   clear A K;try simp only[bh,be,bf]
   refine cE (rs:=[7]) (by kernel_rfl) (by simp) ?_;refine aZ.cons (o:=_) rfl (fun K A=> ?_) aZ.nil;go_simp;refine A.out _ _ (fun h=>absurd h (by decide)) ?_;clear A K;try simp only[bh,be,bf]
   refine lK (by kernel_rfl) ?_ _;simp only[NoPanic];have q1:ae.wrap ((k:Int)-1)=((k-1:Nat):Int):=by rw[bA (by omega)];omega
   go_wp2_with fail;go_roundw;case rel=>exact⟨k-1,O+1,h7,_,_,by omega,by go_num,cG.out⟩
   case measure=>simp[intOf];omega
  ·have dF:¬(0:Int)<(k:Int):=by omega
   have d4:decide ((0:Int)<(k:Int))=false:=by simp;omega
   have dG:decide (0<k)=false:=by simp;omega
   have bd:w.heap.size+1≠w.heap.size:=by omega
   have d3:w.heap.size≠w.heap.size+1:=by omega
   obtain⟨ts,cf,bE,ch⟩:=G.out.enc;obtain⟨h2,cc,l2,cD,bH⟩:=G.out.ds.vq G.out.row (by omega) (by omega)
   have cF:aP h2 (aq #[af ae 1,ah nm,ag none 0 0,ag av O ak]) (.node 1 nm [] ts):=by
    refine⟨_,rfl,?_⟩;rw[bg.iff];refine⟨none,0,av,ak,xs,?_,by unfold aG;simp[Tree.kind],Sl.nil _ _ _ _,?_,cf.mono fun _ _ r=>r.mono l2⟩;·simp only[Tree.kind,Tree.text,Tree.leads,Tree.kids,bE,cL]
    ·simp only[Tree.kids,bE];exact cD
   have cv:MM (.node 1 nm [] ts):=HN cU.out cS.out (by omega) ch;have nr:(ag av O ak).ownBlock≠some w.heap.size:=fun e=>by have:=(G.out.row.lt _ e).1;omega
   have nt:(ag av O ak).ownBlock≠some (w.heap.size+1):=fun e=>by have:=(G.out.row.lt _ e).1;omega
   have bT:=aa G.out.rb;have bC:=aa G.out.tb;have cV:Hid (h2 w.heap.size=none):=(bH _ nr).trans G.out.rn;have cX:Hid (h2 (w.heap.size+1)=none):=(bH _ nt).trans G.out.tn;have bz:=aa cc;have bB:=aa cv;have cY:=aa cF;clear cf bE ch cc l2 cD bH cF cv nr nt;go_wp2_with fail;refine(IJ _ (by have:=bB.out.size;omega) bB.out.2.2.2.2 h2 wr bz.out.I _ cY.out).mono ?_;rintro e w3 ⟨dG,cj,ab,rfl,M,bJ,ce⟩;obtain⟨bX,b0,bV,bZ,-,rfl,-,-,-,-,-,-⟩:=bJ.open;obtain⟨nd,aj⟩:=bz.out.bj;have bR:=aL.Bb aj M;have ad:=aa (l7.make (bz.out.call bR) (bT.out.below M.below) ((M.aI _ bT.out.lt).trans cV.out) (bC.out.below M.below) ((M.aI _ bC.out.lt).trans cX.out) bJ (PM.of bB.out ce));have ac:=bC.out.below M.below;have dm:=ac.cl 0;have dn:=ac.cl 1;have dp:=ac.cl 2;have dr:=ac.cl 3;have du:=ac.fz 0;have dv:=ac.fz 1;have dw:=ac.fz 2;have dA:=ac.fz 3;have dB:=ac.lt;clear ac bR aj M bJ ce aO aQ aS aT ax;go_upto_region 7 with fail;obtain⟨d7,co⟩:∃W,W=(((w3.setCell ⟨w.heap.size+1,0,none⟩ (af ae ab.kind)).setCell ⟨w.heap.size+1,1,none⟩ (ah ab.text)).setCell ⟨w.heap.size+1,2,none⟩ (ag bX ab.leads.length b0)).setCell ⟨w.heap.size+1,3,none⟩ (ag bV ab.kids.length bZ):=⟨_,rfl⟩
   rw[←co]at ad⊢;clear co dm dn dp dr du dv dw dA dB;obtain⟨⟨aO,aQ,aS,aT⟩,a3,g1,a4,a5⟩:=ad.out.tb.four;obtain⟨⟨r0,aB,aM,aN⟩,bm,bp,am,M⟩:=ad.out.rb.four;have ax:=ad.out.tb.lt;have ba:=ad.out.rb.lt;obtain⟨nd,aj⟩:=ad.out.ds.bj;go_wp2_with fail;refine(dW cj _ ad.out.ds.I g D nd aj 2 (by omega) (by omega)).mono ?_;rintro e d8 ⟨rfl,cz⟩;generalize a8 D nd 2=bO;have E:=aa (ad.out.call cz);clear cz aj aO aQ aS aT a3 g1 a4 a5 r0 aB aM aN bm bp am M ax ba;obtain⟨⟨aO,aQ,aS,aT⟩,a3,g1,a4,a5⟩:=E.out.tb.four;obtain⟨⟨r0,aB,aM,aN⟩,bm,bp,am,M⟩:=E.out.rb.four;have ax:=E.out.tb.lt;have ba:=E.out.rb.lt;by_cases a9:bO=0
   ·have dj:(bO==0)=true:=by simpa using a9
    clear a9;go_wp2_with fail;obtain⟨dD,cd⟩:=E.out.ds.bj;refine(IQ g D ab.size E.out.pm.size ab (an _) E.out.pm.1 cj _ E.out.ds.I dD cd _ E.out.tv).mono ?_;rintro e d9 ⟨d5,rfl,dX,bq,cB,bL,ci,ct⟩;obtain⟨c8,dh,cZ,de,-,rfl,-,-,-,-,-,-⟩:=bL.open;have Y:=E.out.call cB;have cN:=aa (l7.make Y.ds Y.rb Y.rn Y.tb Y.tn bL (E.out.pm.Jj ci ct));clear cd cB bL ci ct aO aQ aS aT a3 g1 a4 a5 r0 aB aM aN bm bp am M ax ba;obtain⟨⟨aO,aQ,aS,aT⟩,a3,g1,a4,a5⟩:=Y.tb.four;obtain⟨⟨r0,aB,aM,aN⟩,bm,bp,am,M⟩:=Y.rb.four;have ax:=Y.tb.lt;have ba:=Y.rb.lt;clear Y;go_wp2_with fail;refine aF (v:=aq #[af ae bq.kind,ah bq.text,ag c8 bq.leads.length dh,ag cZ bq.kids.length de]) (by simp[results,Tryz.results41,go_sem,r0,aB,aM,aN]) rfl ?_;exact cN.out.fin
   ·have dj:(bO==0)=false:=by simpa using a9
    clear a9;go_wp2_with fail;refine aF (v:=aq #[af ae ab.kind,ah ab.text,ag bX ab.leads.length b0,ag bV ab.kids.length bZ]) (by simp[results,Tryz.results41,go_sem,r0,aB,aM,aN]) rfl ?_;exact E.out.fin
def PV(t:Tree):Prop:=t.lb∧(MM t∨(t.kind=0∧t.kids=[]∧t.text.size≤1000))
theorem PM.pv{t:Tree}(h:PM t):PV t:=by
 refine⟨h.1,h.2.imp id fun b=> ?_⟩;have A:=o8 t;have E:=o9 t;have G:=rT t;rw[b]at A E G;refine⟨A.symm,?_,by rw[←E];decide⟩;have:aN t.kids=[]:=G.symm;cases hk:t.kids with
 |nil=>rfl
 |cons a l=>rw[hk,aN]at this;cases this
theorem Jl:fu 1 ⟨#[65]⟩=true:=by kernel_rfl
theorem PV.named{k:Int}{s:ByteArray}{l:List ByteArray}{A:List Tree}(h:PV (.node k s l A)):PV (.node k ⟨#[65]⟩ l A):=by refine⟨?_,h.2.imp (fun m=>m.named Jl rfl) fun⟨a,b,_⟩=>⟨a,b,by simp[Tree.text];decide⟩⟩;have:=h.1;rw[Tree.lb]at this⊢;exact this
theorem PV.vt{t:Tree}(h:PV t):VT t:=by
 rcases h.2 with m|⟨a,b,c⟩;·exact .inr ⟨m.2.2.2.2,h.1⟩
 ·exact .inl ⟨a,b,c,h.1⟩
theorem PV.size{t:Tree}(h:PV t):t.size≤100000:=by
 rcases h.2 with m|⟨a,b,c⟩;·have:=m.size;omega
 ·rw[t.size_eq,b];simp[ax]
theorem PV.mm{t:Tree}(h:PV t)(k:t.kind≠0):MM t:=h.2.resolve_right fun q=>k q.1
structure gK(g bn:Nat)(D:List Int)(h:Hp)(w:World)(h1:Hp)(wr:World)(n:Nat)(v:Value)(xs:List Value):Prop where
 st:St w.heap.size h w h1 wr
 bj:∃k,cA h1 wr g D k
 gb:w.heap.size≤g∧g<bn
 nb:Has wr bn #[ah ⟨#[65]⟩,ah ⟨#[66]⟩,ah ⟨#[67]⟩]
 row:Ow wr h1 (bn+1) 26 4 v n xs
 enc:∃ts,aJ (bg h1) ts xs∧ts.length=n∧∀t∈ts,MM t
section
variable {g bn:Nat} {D:List Int} {h h1 h2:Hp} {w wr w2:World} {n:Nat} {v:Value} {xs:List Value}
theorem gK.call(a:gK g bn D h w h1 wr n v xs)(s:aL g D h1 wr h2 w2):gK g bn D h w h2 w2 n v xs:=by have M:=a.gb;obtain⟨ts,A,E,G⟩:=a.enc;exact⟨a.st.dst s M.1,s.bj,a.gb,a.nb.dst s (by omega),a.row.ss s (by omega),ts,A.mono fun _ _ r=>r.mono s.le,E,G⟩
theorem gK.below(a:gK g bn D h w h1 wr n v xs)(b:Below wr.heap.size wr w2):gK g bn D h w h1 w2 n v xs:=by obtain⟨k,d⟩:=a.bj;exact a.call (aL.Bb d (St.pI a.st.I b))
theorem gK.alloc(a:gK g bn D h w h1 wr n v xs)(o:Obj):gK g bn D h w h1 (wr.alloc o) n v xs:=a.below ((aD _ _).alloc (an _) o)
theorem gK.next{v' E G M O:Value}{u:Tree}(a:gK g bn D h w h1 wr n v xs)(am:Ow w2 h1 (bn+1) 26 4 v' (n+1) (xs++[E,G,M,O]))(q:wr.grownBy w2 v.ownBlock)(ak:bg h1 u [E,G,M,O])(aj:MM u):gK g bn D h w h1 w2 (n+1) v' (xs++[E,G,M,O]):=by
 obtain⟨ts,Y,ab,ac⟩:=a.enc;obtain⟨k,d⟩:=a.bj;have ao:=a.gb;have ds:=(aL.refl a.st.I d).gr;have st:=a.st.grown q fun k e=>⟨by have:=(a.row.lt k e).1;omega,a.row.free k e⟩
 have ad:=q.block g d.lt (fun e=>by have:=(a.row.lt g e.symm).1;omega);refine⟨st,⟨k,d.U ad q.size (Hp.le_refl _) d.free⟩,a.gb,a.nb.grown q fun e=>by have:=(a.row.lt _ e).1;omega,am,ts++[u],Y.append (aJ.one ak),by simp[ab],fun t A=> ?_⟩;rcases ev.1 A with A|A;·exact ac t A
 ·rw[eR.1 A];exact aj
end
theorem gK.set{g bn:Nat}{D:List Int}{h h1:Hp}{w wr:World}{n:Nat}{v:Value}{xs:List Value}(a:gK g bn D h w h1 wr n v xs){b i:Nat}(A:w.heap.size≤b)(M:h1 b=none)(G:b≠g)(E:b≠bn)(O:v.ownBlock≠some b)(u:Value):gK g bn D h w h1 (wr.setCell ⟨b,i,none⟩ u) n v xs:=by obtain⟨k,d⟩:=a.bj;exact⟨a.st.setCell (p:=⟨b,i,none⟩) A M u,⟨k,d.setCell (p:=⟨b,i,none⟩) G u⟩,a.gb,a.nb.ne E _ _,a.row.setCell (p:=⟨b,i,none⟩) O u,a.enc⟩
theorem aP.Jm{h:Hp}{k:Int}{s s':ByteArray}{a b:Value}{t:Tree}(tv:aP h (aq #[af ae k,ah s,a,b]) t):aP h (aq #[af ae k,ah s',a,b]) (.node t.kind s' t.leads t.kids):=by have e:=dq tv;obtain⟨E,G,A,ck,xs,q,h1,h2,M,O⟩:=bg.iff.1 e;simp only[ii,Value.int.injEq,true_and,and_true]at q;obtain⟨rfl,-,rfl,rfl⟩:=q;exact⟨_,rfl,by rw[bg.iff];exact⟨E,G,A,ck,xs,rfl,h1,h2,M,O⟩⟩
def Be(h:Hp)(w:World)(e:Ending)(w':World):Prop:=∃v h' ts,e= .returned v∧St w.heap.size h w h' w'∧hQ h' v ts∧MP ts
theorem gK.fin{g bn:Nat}{D:List Int}{h h1:Hp}{w wr:World}{n:Nat}{v:Value}{xs:List Value}(a:gK g bn D h w h1 wr n v xs)(Y:n≤3):Be h w (.returned v) wr:=by have O:=a.gb;have M:=(a.row.base (B':=w.heap.size) (by omega)).sl (by omega);obtain⟨ts,A,E,G⟩:=a.enc;subst E;exact⟨v,_,ts,rfl,a.st.fr,⟨xs,M,A.mono fun _ _ r=>r.mono (Hp.gQ a.st.I)⟩,by omega,G⟩
theorem Jn(n:Nat)(A:n<3):∃s,(#[ah ⟨#[65]⟩,ah ⟨#[66]⟩,ah ⟨#[67]⟩]:Array Value)[n]? =some (ah s)∧fu 1 s=true∧s.size=1:=by obtain⟨s,a,b⟩:=ik [ah ⟨#[65]⟩,ah ⟨#[66]⟩,ah ⟨#[67]⟩] (mC 1) (by kernel_rfl) n A;unfold mC at b;rw[Bool.and_eq_true,decide_eq_true_iff]at b;exact⟨s,a,b.1,b.2⟩
theorem Jo(h:Hp)(w:World)(cc:ao h w)(bR:Value)(D:List Int)(cd:Ints h bR D)(cQ:D.length≤1000):Calls ai 17 #[bR] w (Be h w):=by
 have cn:=aa cc;have co:=aa cd;clear cc cd;go_enter Tryz.func17,Tryz.ntmps17;go_wp2_with fail;refine(IG h w cn.out bR D co.out (by omega)).mono ?_;rintro e w1 ⟨g,rfl,b9,h1,cj,aB⟩
 have aG:Hid (gK g w1.heap.size D h w h1 (w1.alloc (.cells #[ah ⟨#[65]⟩,ah ⟨#[66]⟩,ah ⟨#[67]⟩] 9)) 0 (ag none 0 0) []):=
  ⟨cj.alloc _,⟨0,aB.alloc _⟩,⟨b9,aB.lt⟩,Has.new _ _ _,Ow.nil _ _ _ _ _,[],by simp[aJ],rfl,fun t cz=>by cases cz⟩
 clear cj aB b9;go_wp2_with fail;generalize w1.alloc (.cells #[ah ⟨#[65]⟩,ah ⟨#[66]⟩,ah ⟨#[67]⟩] 9)=w2 at aG⊢;generalize w1.heap.size=bn at*;obtain⟨k1,aB⟩:=aG.out.bj;refine(dW h1 _ aG.out.st.I g D k1 aB 4 (by omega) (by omega)).mono ?_;rintro e w3 ⟨rfl,cl⟩;have cu:=jo D k1 4 (by omega);generalize a8 D k1 4=z at*;obtain⟨cf,rfl⟩:∃k:Nat,z=(k:Int):=⟨z.toNat,by omega⟩
 have cM:cf≤3:=by omega
 have bX:=aa (aG.out.call cl);clear cl aG aB cu;go_wp2_with fail;go_loopw[4,6,7,13,14,15,16,17,18,19,20,21,22,23,24,25,26,27,28,29,30,31,32,33] (fun cA i _ _ _ _ _ _ _ _ _ _ _ _ _ _ _ _ _ _ _ _ _ _ wr=>∃(k E:Nat) (h1:Hp) (xs:List Value),k+E≤3∧i=af ae k∧gK g bn D h w h1 wr E cA xs) (fun _ i _ _ _ _ _ _ _ _ _ _ _ _ _ _ _ _ _ _ _ _ _ _ _=>(intOf i).toNat);case atStart=>exact⟨cf,0,h1,_,by omega,rfl,bX.out⟩
 case round=>
  obtain⟨k,E,h2,xs,cN,rfl,bI⟩:=hrel;obtain⟨av,bH,rfl⟩:=bI.row.shape;have ad:=aa bI;clear bI bX;by_cases cG:0<k
  ·have cB:(0:Int)<(k:Int):=by omega
   have cC:(0:Int)≤(E:Int):=by omega
   have cD:(E:Int)<3:=by omega
   have q1:ae.wrap ((k:Int)-1)=((k-1:Nat):Int):=by rw[bA (by omega)];omega
   obtain⟨nm,ce,cg,ch⟩:=Jn E (by omega);have cv:=(ad.out.nb.cl E).trans ce;have cq:=aa cg;have ct:=aa ch;obtain⟨a5,aO⟩:=ad.out.bj;clear ce cg ch;go_wp2_with fail;refine(Jk g D nm cq.out ct.out h2 _ ad.out.st.I a5 aO).mono ?_;rintro e ac ⟨cS,rfl,O,A,bJ,bO,ci⟩;obtain⟨am,ax,ak,ck,-,rfl,-,-,-,-,-,-⟩:=bO.open;have aV:=aa ((ad.out.call bJ).alloc (.cells #[af ae A.kind,ah A.text,ag am A.leads.length ax,ag ak A.kids.length ck] 26));have b0:Hid (Has (ac.alloc (.cells #[af ae A.kind,ah A.text,ag am A.leads.length ax,ag ak A.kids.length ck] 26)) ac.heap.size #[af ae A.kind,ah A.text,ag am A.leads.length ax,ag ak A.kids.length ck]):=Has.new _ _ _;have bZ:=aa bO;have bY:=aa ci.pv;have M:=aa (ad.out.call bJ);clear bJ bO ci cv aO;obtain⟨a5,aO⟩:=aV.out.bj;go_wp2_with fail;refine(dW O _ aV.out.st.I g D a5 aO 8 (by omega) (by omega)).mono ?_;rintro e cU ⟨rfl,bL⟩;generalize a8 D a5 8=bV;have aX:=aa (aV.out.call bL);have a3:ac.heap.size≠g:=by have:=M.out.gb;have:=M.out.nb.lt;omega
   have aj:=aa (b0.out.dst bL a3);clear bL aO aV b0;obtain⟨⟨ba,bd,bg,bm⟩,aY,aZ,a1,a2⟩:=aj.out.four;have a9:=aj.out.lt;have bz:w.heap.size≤ac.heap.size:=by have:=M.out.nb.lt;have:=M.out.gb;omega
   have bB:ac.heap.size≠bn:=by have:=M.out.nb.lt;omega
   have bC:(ag av E bH).ownBlock≠some ac.heap.size:=fun e=>by have:=(M.out.row.lt _ e).2;omega
   have bE:O ac.heap.size=none:=M.out.st.I.iI;by_cases a4:bV=7
   ·have cw:(bV==7)=true:=by simpa using a4
    clear a4;have aL:=aa (aX.out.set (i:=1) bz bE a3 bB bC (ah ⟨#[65]⟩));have bT:=aj.out.fg 1 (by simp) (ah ⟨#[65]⟩);simp only[bh,be,bf]at bT;have bv:=aa bT;have aM:Hid (aP O (aq #[af ae A.kind,ah ⟨#[65]⟩,ag am A.leads.length ax,ag ak A.kids.length ck]) (.node A.kind ⟨#[65]⟩ A.leads A.kids)):=bZ.out.Jm;have Y:Hid (PV (.node A.kind ⟨#[65]⟩ A.leads A.kids)):=by have:=bY.out;cases A;exact this.named
    clear bT aX bz bB bC bE a3 M aj;go_wp2_with fail;refine(Bd (.node A.kind ⟨#[65]⟩ A.leads A.kids) Y.out.size Y.out.vt O _ aL.out.st.I _ aM.out).mono ?_;rintro e bS ⟨⟨b,rfl,aS⟩,ab⟩;have bp:=aa aS;have G:=aa (aL.out.below ab);have aN:=aa (bv.out.below ab);clear ab aS ba bd bg bm aY aZ a1 a2 a9;obtain⟨⟨ba,bd,bg,bm⟩,aY,aZ,a1,a2⟩:=aN.out.four;have a9:=aN.out.lt;cases b
    ·go_wp2_with fail;go_roundw;case rel=>exact⟨k-1,E,O,xs,by omega,by go_num,G.out⟩
     case measure=>simp[intOf];omega
    ·have MU:=aa (Y.out.mm (bp.out (by trivial)));go_wp2_with(at_builtin;refine ft iJ rfl _ _ rfl (St.dN (B:=bn+1) (G.out.alloc _).st.I (by have:=G.out.nb.lt;simp;omega)) (ag av E bH) E xs rfl (G.out.alloc _).row ⟨bS.heap.size,0,none⟩ 1 1 [af ae A.kind,ah ⟨#[65]⟩,ag am A.leads.length ax,ag ak A.kids.length ck] rfl (by rfl) (cK _ _ _ _ rfl) (cm _ rfl) (by omega) ?_;intro cE cF bN aT aQ bG;have bq:=aa ((G.out.alloc _).next aT aQ (dq aM.out) MU.out);clear bN aT aQ bG);go_roundw;case rel=>exact⟨k-1,E+1,O,_,by omega,by go_num,bq.out⟩
     case measure=>simp[intOf];omega
   ·have cw:(bV==7)=false:=by simpa using a4
    clear a4;have aL:=aa aX.out;have bv:=aa aj.out;have aM:=aa bZ.out;have Y:=aa bY.out;clear aX bz bB bC bE a3 M aj;go_wp2_with fail;refine(Bd A Y.out.size Y.out.vt O _ aL.out.st.I _ aM.out).mono ?_;rintro e bS ⟨⟨b,rfl,aS⟩,ab⟩;have bp:=aa aS;have G:=aa (aL.out.below ab);have aN:=aa (bv.out.below ab);clear ab aS ba bd bg bm aY aZ a1 a2 a9;obtain⟨⟨ba,bd,bg,bm⟩,aY,aZ,a1,a2⟩:=aN.out.four;have a9:=aN.out.lt;cases b
    ·go_wp2_with fail;go_roundw;case rel=>exact⟨k-1,E,O,xs,by omega,by go_num,G.out⟩
     case measure=>simp[intOf];omega
    ·have MU:=aa (Y.out.mm (bp.out (by trivial)));go_wp2_with(at_builtin;refine ft iJ rfl _ _ rfl (St.dN (B:=bn+1) (G.out.alloc _).st.I (by have:=G.out.nb.lt;simp;omega)) (ag av E bH) E xs rfl (G.out.alloc _).row ⟨bS.heap.size,0,none⟩ 1 1 [af ae A.kind,ah A.text,ag am A.leads.length ax,ag ak A.kids.length ck] rfl (by rfl) (cK _ _ _ _ rfl) (cm _ rfl) (by omega) ?_;intro cE cF bN aT aQ bG;have bq:=aa ((G.out.alloc _).next aT aQ (dq aM.out) MU.out);clear bN aT aQ bG);go_roundw;case rel=>exact⟨k-1,E+1,O,_,by omega,by go_num,bq.out⟩
     case measure=>simp[intOf];omega
  ·have cB:¬(0:Int)<(k:Int):=by omega
   have cC:decide ((0:Int)<(k:Int))=false:=by simp;omega
   have cD:decide (0<k)=false:=by simp;omega
   go_wp2_with fail;go_ret;exact ad.out.fin (by omega)
theorem Jt(T:fq)(N:Nat)(w:World)(E:Tb T N w)(a:Option Addr)(n c:Nat)(Y:120<n)(O:n≤9223372036854775807):Calls ai 6 #[ag a n c] w fun e w'=>e= .returned (.bool true)∧Below w.heap.size w w':=by
 have g1:decide ((n:Int)≤120)=false:=by simp;omega
 have M:=aa E;clear E;go_enter sU,Tryz.ntmps6;go_wp2_with fail;refine(Al _ a n c O).mono ?_;rintro e w1 ⟨rfl,rfl⟩;rw[g1];go_wp2_with fail;refine(vg T N _ M.out).mono ?_;rintro e w2 ⟨rfl,A⟩;have G:=aa A;clear A;go_wp2_with fail;go_ret;exact⟨rfl,G.out⟩
structure kz(h:Hp)(w:World)(ts:List Tree)(h1:Hp)(wr:World)(j:Nat)(v:Value)(xs:List Value):Prop where
 st:St w.heap.size h w h1 wr
 row:Ow wr h1 w.heap.size 26 4 v j xs
 enc:aJ (bg h1) (aN (ts.take j)) xs
section
variable {h h1 h2:Hp} {w wr w2:World} {ts:List Tree} {j:Nat} {v:Value} {xs:List Value}
theorem kz.call(a:kz h w ts h1 wr j v xs)(s:St wr.heap.size h1 wr h2 w2):kz h w ts h2 w2 j v xs:=
 ⟨a.st.call s,a.row.call s,a.enc.mono fun _ _ r=>r.mono s.le⟩
theorem kz.alloc(a:kz h w ts h1 wr j v xs)(o:Obj):kz h w ts h1 (wr.alloc o) j v xs:=a.call (St.pI a.st.I ((aD _ _).alloc (an _) o))
theorem kz.next{v' A E G M:Value}(a:kz h w ts h1 wr j v xs)(Y:Ow w2 h1 w.heap.size 26 4 v' (j+1) (xs++[A,E,G,M]))(g:wr.grownBy w2 v.ownBlock)(O:j<ts.length)(hj:bg h1 ts[j].bare [A,E,G,M]):kz h w ts h1 w2 (j+1) v' (xs++[A,E,G,M]):=by refine⟨a.st.grown g fun k e=>⟨(a.row.lt k e).1,a.row.free k e⟩,Y,?_⟩;rw[Bi _ _ O];exact a.enc.append (aJ.one hj)
end
theorem Ju(T:fq)(N:Nat)(h:Hp)(w:World)(ab:ao h w)(cj:Tb T N w)(cn:Value)(L:List Int)(a8:Ints h cn L)(dP:L.length≤120):Calls ai 6 #[cn] w fun e w'=>e= .returned (.bool true)∧Below w.heap.size w w':=by
 have cv:=aa ab;have cw:=aa a8;have O:=aa cj;obtain⟨cN,cS,rfl,dO,-⟩:=a8.open;clear ab a8 cj;have g1:decide ((L.length:Int)≤120)=true:=by simp;omega
 go_enter sU,Tryz.ntmps6;go_wp2_with fail;refine(Al _ cN L.length cS (by omega)).mono ?_;rintro e w1 ⟨rfl,rfl⟩;rw[g1];go_wp2_with fail;refine(Jo h _ cv.out _ L cw.out (by omega)).mono ?_;rintro e w1 ⟨dk,h1,ts,rfl,bp,bz,cg⟩;obtain⟨ap,cp,rfl,dR⟩:=(show∃a c,dk=ag a ts.length c∧ts.length≤140737488355328 by obtain⟨cs,q,-⟩:=bz;exact q.shape)
 have aV:=aa bp.below;have aY:=aa bp.I;have a2:=aa bz;have A:=aa cg;clear bp bz cg;go_wp2_with fail;refine(Jp h1 _ aY.out _ ts a2.out).mono ?_;rintro e w2 ⟨⟨b,rfl,cc⟩,b2⟩;have bL:=aa cc;have M:Hid (Below w.heap.size w w2):=aV.out.trans (b2.mono aV.out.size);have cC:=aa (aY.out.below b2);clear cc b2 aV aY;cases b;·go_wp2_with fail;refine(vg T N _ (O.out.below (M.out.mono O.out.1))).mono ?_;rintro e w3 ⟨rfl,b3⟩;have co:Hid (Below w.heap.size w w3):=M.out.trans (b3.mono M.out.size);clear b3;go_wp2_with fail;go_ret;exact⟨rfl,co.out⟩
 have cF:=aa (bL.out rfl);clear bL;have bJ:Hid (kz h1 w2 ts h1 w2 0 (ag none 0 0) []):=⟨St.refl cC.out,Ow.nil _ _ _ _ _,by simp[aN,aJ]⟩
 go_wp2_with fail;go_loopw[4,5,19,20,21,22,23,24,25,26,27,28,29,30,31,32] (fun dg i _ _ _ _ _ _ _ _ _ _ _ _ _ _ wr=>∃(j:Nat) (aP:Hp) (xs:List Value),j≤ts.length∧i=af ae j∧kz h1 w2 ts aP wr j dg xs) (fun _ i _ _ _ _ _ _ _ _ _ _ _ _ _ _ _=>ts.length-(intOf i).toNat);case atStart=>exact⟨0,h1,_,aW _,rfl,bJ.out⟩
 case round=>
  obtain⟨j,aP,xs,dE,rfl,bg⟩:=hrel;obtain⟨av,bN,rfl⟩:=bg.row.shape;have E:=aa bg;clear bg bJ;have bE:Hid (ao h1 wr):=fun b c aQ=>E.out.st.I b c (E.out.st.le b c aQ);by_cases hj:j<ts.length
  ·obtain⟨cs,bZ,bV⟩:=a2.out;obtain⟨b,de,dv,dA,du,dw,rfl,b9,bX⟩:=ed bZ bV j hj;have cA:=aa b9;obtain⟨cU,cV,cX,cY⟩:=bX wr bE.out;have dj:(0:Int)≤(j:Int):=by omega
   have dX:(j:Int)<(ts.length:Int):=by omega
   have hz:=aa (A.out.at hj).size;have dQ:=A.out.1;clear b9 bX bZ bV;go_wp2_with fail;refine(Js 1000000 (by omega) ts[j] (by have:=hz.out;rw[getD_at hj]at this;omega) aP _ E.out.st.I _ (cA.out.mono E.out.st.le)).mono ?_;rintro e dm ⟨dY,h7,rfl,ci,bA⟩;obtain⟨bl,c6,bk,cZ,-,rfl,-,-,-,-,-,-⟩:=bA.open;have aO:=aa (E.out.call ci);have cE:=aa bA;clear ci bA cU cV cX cY E;go_wp2_with(at_builtin;refine ft iJ rfl _ _ rfl (St.dN (B:=w2.heap.size) (aO.out.alloc _).st.I (by have:=aO.out.st.size;simp;omega)) (ag av j bN) j xs rfl (aO.out.alloc _).row ⟨dm.heap.size,0,none⟩ 1 1 [af ae ts[j].bare.kind,ah ts[j].bare.text,ag bl ts[j].bare.leads.length c6,ag bk ts[j].bare.kids.length cZ] rfl (by rfl) (cK _ _ _ _ rfl) (cm _ rfl) (by omega) ?_;intro dZ d1 di ch bS cQ;have cD:=aa ((aO.out.alloc _).next ch bS hj (dq cE.out));clear di ch bS cQ);go_roundw;case rel=>exact⟨j+1,h7,_,by omega,by go_num,cD.out⟩
   case measure=>simp[intOf];omega
  ·obtain rfl:j=ts.length:=by omega
   have dj:¬((ts.length:Int)<(ts.length:Int)):=by omega
   have bv:=E.out.st.fr;have cl:hQ (aP.fr w2.heap.size wr) (ag av ts.length bN) (aN ts):=by have dh:=(E.out.row).sl (by omega);have e:=E.out.enc;rw[List.take_length]at e;refine⟨xs,?_,e.mono fun _ _ r=>r.mono (Hp.gQ E.out.st.I)⟩;rw[r8];exact dh
   go_wp2_with fail;have aM:Hid (Below w.heap.size w wr):=M.out.trans (E.out.st.below.mono M.out.size);refine(u2 T N _ _ bv.I (O.out.below (aM.out.mono O.out.1)) _ _ _ _ (a2.out.mono bv.le) cl 1048576 (by unfold aG;omega) A.out.prog A.out.bare.prog A.out.texts A.out.bare.texts A.out.jw A.out.bare.jw A.out.oe A.out.bare.oe).mono ?_;rintro e G ⟨dW,c8,rfl,bq,bH⟩;obtain⟨a9,aQ,bT⟩:=H7 (ck:=aX T) cF.out (fun d c9=>by have:=(A.out.def c9).1.1;omega);rw[aQ,bT];generalize(eD (aX T) 1048576 ts (aN ts))=dU at*;have ad:Hid (Below w.heap.size w G):=aM.out.trans (bq.below.mono aM.out.size);have cq:Hid (∀o,Below w.heap.size w (G.alloc o)):=fun o=>ad.out.alloc ad.out.size o;have bG:=aa bq.I;have aZ:=aa a9;obtain⟨ax,aB,rfl,bY⟩:=vf bH;have cz:=aa bY;have aS:=a9.rl;rw[aS];clear bq bH bY aQ bT a9 cl bv aM aS;have Y:=aa (Has.new G #[ag ax ts.length aB,af ae 0,af ae 0] 31);have a1:Hid (ao c8 (G.alloc (.cells #[ag ax ts.length aB,af ae 0,af ae 0] 31))):=bG.out.alloc _;have aL:Hid (Below w.heap.size w (G.alloc (.cells #[ag ax ts.length aB,af ae 0,af ae 0] 31))):=ad.out.alloc ad.out.size _;clear cq;go_upto_region 12 with fail;generalize G.alloc (.cells #[ag ax ts.length aB,af ae 0,af ae 0] 31)=aT at*;generalize G.heap.size=aj at*;have bd:=Y.out.cl 0;have ak:=Y.out.cl 1;have am:=Y.out.cl 2;have ba:=Y.out.lt;change aT.cell? ⟨aj,0,none⟩=some (ag ax ts.length aB)at bd;change aT.cell? ⟨aj,1,none⟩=some (af ae 0)at ak;change aT.cell? ⟨aj,2,none⟩=some (af ae 0)at am;clear bG ad M bE E;obtain⟨dn,cd⟩:∃x,x=aT:=⟨_,rfl⟩
   rw[←cd]at bd ak am ba aL a1 Y⊢;clear cd;go_wp2_with fail;go_loopw[2,7,8,42,43,44,45,46,47,48,49,50,51,52,53,54,55,56,57,58,59,60,61,62,63,64,65,66,67,68,69] (fun _ i _ _ _ _ _ _ _ _ _ _ _ _ _ _ _ _ _ _ _ _ _ _ _ _ _ _ _ _ _ bC=>∃(ce:Nat),ce≤ts.length∧i=af ae ce∧bC=dn) (fun _ i _ _ _ _ _ _ _ _ _ _ _ _ _ _ _ _ _ _ _ _ _ _ _ _ _ _ _ _ _ _=>ts.length-(intOf i).toNat);case atStart=>exact⟨0,aW _,rfl,rfl⟩
   case round=>
    obtain⟨i,dD,rfl,rfl⟩:=hrel;by_cases ab:i<ts.length
    ·have w1:(i:Int)<(ts.length:Int):=by omega
     have w2:(0:Int)≤(i:Int):=by omega
     have aS:=aZ.out.rl;obtain⟨b,de,dB,dC,rfl,a5,bO⟩:=cz.out i (by omega);have bm:=aZ.out.gZ i ab;rw[bm]at a5;obtain⟨dp,dr⟩:=a5 _ a1.out;have cu:=aa bO;have bI:=aa bm;clear a5 bO aS bm;have db:=aa (A.out.at ab).size;generalize b0:(ts.getD i default).size=ac at*;have cB:=aa b0;clear b0;go_wp2_with fail;go_loopw[2,8,48,49,50,51,52,53,54,55,56,57,58,59,60,61,62,63,64,65,66,67,68,69] (fun _ k _ _ _ _ _ _ _ _ _ _ _ _ _ _ _ _ _ _ _ _ _ _ bC=>∃(cf:Nat),cf≤ac∧k=af ae cf∧bC=wr) (fun _ k _ _ _ _ _ _ _ _ _ _ _ _ _ _ _ _ _ _ _ _ _ _ _=>ac-(intOf k).toNat);case atStart=>exact⟨0,aW _,rfl,rfl⟩
     case round=>
      obtain⟨k,dN,rfl,rfl⟩:=hrel;have dG:ac≤1000000:=by have:=db.out;omega
      by_cases dF:k<ac
      ·have w3:(k:Int)<(ac:Int):=by omega
       have d0:(0:Int)≤(k:Int):=by omega
       obtain⟨b',dT,rfl,bR⟩:=cu.out k (by have:=bI.out;omega);obtain⟨dt,cG,cM⟩:=bR _ a1.out;have q:=aZ.out.rs i k ab (by have:=cB.out;omega) trivial;rw[getD_at (by have:=bI.out;omega)]at q;rw[q]at cG cM;clear q bR;go_wp2_with fail;go_roundw;case rel=>exact⟨k+1,by omega,by go_num,trivial⟩
       case measure=>simp[intOf];omega
      ·obtain rfl:k=ac:=by omega
       have w3:¬((k:Int)<(k:Int)):=by omega
       go_wp2_with fail;go_roundw;case rel=>exact⟨i+1,by omega,by go_num,trivial⟩
       case measure=>simp[intOf];omega
    ·obtain rfl:i=ts.length:=by omega
     have w1:¬((ts.length:Int)<(ts.length:Int)):=by omega
     go_wp2_with fail;refine(vg T N _ (O.out.below (aL.out.mono O.out.1))).mono ?_;rintro e bB ⟨rfl,a4⟩;have ct:Hid (Below w.heap.size w bB):=aL.out.trans (a4.mono aL.out.size);have a3:=aa (Y.out.below a4);clear a4 bd ak am ba;have ak:=a3.out.cl 1;have am:=a3.out.cl 2;have ba:=a3.out.lt;change bB.cell? ⟨aj,1,none⟩=some (af ae 0)at ak;change bB.cell? ⟨aj,2,none⟩=some (af ae 0)at am;go_wp2_with fail;go_ret;exact⟨rfl,ct.out⟩
end Go.Proofs.YtdplggpbgommnaaGreatDoor
