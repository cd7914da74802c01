/- matching.Match. -/
import Derived.Test.YtdplggpbgommnaaGreatDoorWl
import Derived.Test.YtdplggpbgommnaaGreatDoorG10
import Derived.ProofKit
import Derived.OpenShut
open Bool renaming not_eq_true'->vI
open Go renaming bodyPost_ret->aF,results->aH
open Go.DataW renaming TrodAll->sI
open Go.IntKind renaming i64->ae
open Go.Lib renaming hid->aa
open Go.Obj renaming cells->au
open Go.Proofs.Tryz renaming prog->ai,results64->sH
open Go.Value renaming agg->aq,bool->ay,int->af,slice->ag,string->ah
open Go.World renaming cell?_alloc_at->cJ,cell?_alloc_past->eg
open List renaming append_nil->jG,concat_eq_append->BP,cons_append->GP,getElem?_append_left->jD,getElem?_append_right->ih,getElem?_cons_zero->bc,head?_cons->KC,length_cons->bF,map_cons->cR,mem_cons_of_mem->cW,mem_cons->b8,mem_flatMap->hM,mergeSort_perm->po,pairwise_append->qE,pairwise_cons->fJ,range->aw,sum_cons->GS,take_length->cP
open List.Pairwise renaming imp_of_mem->pj
open List.cons renaming injEq->ii
open Nat renaming add_mul->gN,add_zero->dz,lt_of_lt_of_le->bK,lt_or_ge->b7
open Option.some renaming injEq->aC,inj->aU
set_option maxRecDepth 100000
set_option maxHeartbeats 4000000
namespace Go.Proofs.YtdplggpbgommnaaGreatDoor
open Go.RowKit
def bE(x y:List aB)(budget:Int):kd:=
 if(nd x 0).kind=(nd y 0).kind then
  if ct x=true/\ct y=true then
   match fB x y budget with
   |some l=>iO x y (cq l)
   |none=>dr x y
  else dr x y
 else{aR:=[],cost:=x.length+y.length,gT:=true,a7:=x.length+y.length,proof:=[]}
theorem rq{x y:List aB}(hx:WF x)(hy:WF y){budget:Int}{l:List (Int×Int)}(h:fB x y budget=some l):Good x y (kp x y) l l.length/\(l.length:Int)<=budget:=by
 unfold fB at h;split at h;·cases h
 ·rename_i J;rcases q6 (q7 hx hy) budget.toNat (budget.toNat+1) [(0,0)] 0 (oS hx.pos hy.pos) (by simp;omega) (by omega)with⟨r,h1,h2,G⟩|⟨h1,_⟩;·rw[h]at h1;obtain rfl:=aU h1;exact⟨h2,by omega⟩
  ·rw[h]at h1;cases h1
theorem kh{l:List (Int×Int)}{q:Int×Int}:q∈cq l↔q∈l:=(po l _).mem_iff
theorem xQ(l:List (Int×Int)):(cq l).length=l.length:=List.length_mergeSort _
theorem xR{l:List (Int×Int)}(h:l.Nodup):(cq l).Nodup:=(po l _).nodup_iff.2 h
theorem pY{x y:List aB}{k:Int×Int->List (Int×Int)}{l:List (Int×Int)}(g:Good x y k l l.length):(0,0)∈l/\∀p∈l,∀q∈k p,q∈l:=by refine⟨by rw[g.eq];simp,fun p hp q G=> ?_⟩;rw[g.eq,cP];exact cW _ (hM.2 ⟨p,hp,G⟩)
theorem pZ{B:Nat}{J h:Hp}{w0 w:World}(s:St B J w0 h w){g:Nat}(G:B<=g)(hn:h g=none)(a b c d e:Value):St B J w0 h (((((w.setCell ⟨g,0,none⟩ a).setCell ⟨g,1,none⟩ b).setCell ⟨g,2,none⟩ c).setCell ⟨g,3,none⟩ d).setCell ⟨g,4,none⟩ e):=
 ((((s.setCell (p:=⟨g,0,none⟩) G hn a).setCell (p:=⟨g,1,none⟩) G hn b).setCell (p:=⟨g,2,none⟩) G hn c).setCell (p:=⟨g,3,none⟩) G hn d).setCell (p:=⟨g,4,none⟩) G hn e
theorem ua(h:Hp)(w:World)(cD:ao h w)(va vb:Value)(a b:Tree)(budget:Int)(cw:aG budget)(ha:aP h va a)(cf:aP h vb b)(ci:a.size<=262144)(sb:b.size<=262144):Calls ai 64 #[va,vb,af ae budget] w fun e w'=>∃v,e= .returned v/\∃h',St w.heap.size h w h' w'/\Lk h' v (bE (aO a) (aO b) budget):=by
 have cX:=aa ha;have cY:=aa cf;have cl:=aa cD;have a8:=aa (q4 a);have a9:=aa (q4 b);have dm:=a8.out.pos;have dn:=a9.out.pos;have bL:(aO a).length<=262144:=by rw[nJ];exact ci
 have bN:(aO b).length<=262144:=by rw[nJ];exact sb
 have c6:=aa ci;have c8:=aa sb;have cV:=aa cw;obtain⟨al,aL,aB,ck,ys,rfl,bd,dE,dC,-,-,-⟩:=ha.open;obtain⟨bl,aN,bk,aM,dZ,rfl,dB,dF,dD,-,-,-⟩:=cf.open;have dg:(nd (aO a) 0).kind=(nd (aO a) 0).kind:=rfl;clear cD ha cf ci sb cw dg;go_in;go_upto_region 1 with fail;have a0:(((w.alloc (au #[af ae a.kind,ah a.text,ag al a.leads.length aL,ag aB a.kids.length ck] 26)).alloc (au #[af ae b.kind,ah b.text,ag bl b.leads.length aN,ag bk b.kids.length aM] 26)).alloc (au #[ag none 0 0,af ae 0,ay false,af ae 0,ag none 0 0] 76)).cell? ⟨w.heap.size,0,none⟩=some (af ae a.kind):=by rw[eg _ _ _ (by simp;omega),eg _ _ _ (by simp),cJ _ _ _ _ rfl];rfl
 have b9:(((w.alloc (au #[af ae a.kind,ah a.text,ag al a.leads.length aL,ag aB a.kids.length ck] 26)).alloc (au #[af ae b.kind,ah b.text,ag bl b.leads.length aN,ag bk b.kids.length aM] 26)).alloc (au #[ag none 0 0,af ae 0,ay false,af ae 0,ag none 0 0] 76)).cell? ⟨w.heap.size,1,none⟩=some (ah a.text):=by rw[eg _ _ _ (by simp;omega),eg _ _ _ (by simp),cJ _ _ _ _ rfl];rfl
 have cc:(((w.alloc (au #[af ae a.kind,ah a.text,ag al a.leads.length aL,ag aB a.kids.length ck] 26)).alloc (au #[af ae b.kind,ah b.text,ag bl b.leads.length aN,ag bk b.kids.length aM] 26)).alloc (au #[ag none 0 0,af ae 0,ay false,af ae 0,ag none 0 0] 76)).cell? ⟨w.heap.size,2,none⟩=some (ag al a.leads.length aL):=by rw[eg _ _ _ (by simp;omega),eg _ _ _ (by simp),cJ _ _ _ _ rfl];rfl
 have cd:(((w.alloc (au #[af ae a.kind,ah a.text,ag al a.leads.length aL,ag aB a.kids.length ck] 26)).alloc (au #[af ae b.kind,ah b.text,ag bl b.leads.length aN,ag bk b.kids.length aM] 26)).alloc (au #[ag none 0 0,af ae 0,ay false,af ae 0,ag none 0 0] 76)).cell? ⟨w.heap.size,3,none⟩=some (ag aB a.kids.length ck):=by rw[eg _ _ _ (by simp;omega),eg _ _ _ (by simp),cJ _ _ _ _ rfl];rfl
 have ce:(((w.alloc (au #[af ae a.kind,ah a.text,ag al a.leads.length aL,ag aB a.kids.length ck] 26)).alloc (au #[af ae b.kind,ah b.text,ag bl b.leads.length aN,ag bk b.kids.length aM] 26)).alloc (au #[ag none 0 0,af ae 0,ay false,af ae 0,ag none 0 0] 76)).cell? ⟨w.heap.size+1,0,none⟩=some (af ae b.kind):=by rw[eg _ _ _ (by simp),cJ _ _ _ _ (by simp)];rfl
 have b1:(((w.alloc (au #[af ae a.kind,ah a.text,ag al a.leads.length aL,ag aB a.kids.length ck] 26)).alloc (au #[af ae b.kind,ah b.text,ag bl b.leads.length aN,ag bk b.kids.length aM] 26)).alloc (au #[ag none 0 0,af ae 0,ay false,af ae 0,ag none 0 0] 76)).cell? ⟨w.heap.size+1,1,none⟩=some (ah b.text):=by rw[eg _ _ _ (by simp),cJ _ _ _ _ (by simp)];rfl
 have b2:(((w.alloc (au #[af ae a.kind,ah a.text,ag al a.leads.length aL,ag aB a.kids.length ck] 26)).alloc (au #[af ae b.kind,ah b.text,ag bl b.leads.length aN,ag bk b.kids.length aM] 26)).alloc (au #[ag none 0 0,af ae 0,ay false,af ae 0,ag none 0 0] 76)).cell? ⟨w.heap.size+1,2,none⟩=some (ag bl b.leads.length aN):=by rw[eg _ _ _ (by simp),cJ _ _ _ _ (by simp)];rfl
 have b3:(((w.alloc (au #[af ae a.kind,ah a.text,ag al a.leads.length aL,ag aB a.kids.length ck] 26)).alloc (au #[af ae b.kind,ah b.text,ag bl b.leads.length aN,ag bk b.kids.length aM] 26)).alloc (au #[ag none 0 0,af ae 0,ay false,af ae 0,ag none 0 0] 76)).cell? ⟨w.heap.size+1,3,none⟩=some (ag bk b.kids.length aM):=by rw[eg _ _ _ (by simp),cJ _ _ _ _ (by simp)];rfl
 have cm:Hid (∀i,(((w.alloc (au #[af ae a.kind,ah a.text,ag al a.leads.length aL,ag aB a.kids.length ck] 26)).alloc (au #[af ae b.kind,ah b.text,ag bl b.leads.length aN,ag bk b.kids.length aM] 26)).alloc (au #[ag none 0 0,af ae 0,ay false,af ae 0,ag none 0 0] 76)).cell? ⟨w.heap.size+2,i,none⟩=(#[ag none 0 0,af ae 0,ay false,af ae 0,ag none 0 0]:Array Value)[i]?/\(((w.alloc (au #[af ae a.kind,ah a.text,ag al a.leads.length aL,ag aB a.kids.length ck] 26)).alloc (au #[af ae b.kind,ah b.text,ag bl b.leads.length aN,ag bk b.kids.length aM] 26)).alloc (au #[ag none 0 0,af ae 0,ay false,af ae 0,ag none 0 0] 76)).frozen? ⟨w.heap.size+2,i,none⟩=false):=fun i=>⟨by rw[cJ _ _ _ _ (by simp)],by rw[World.frozen?_alloc_at _ _ _ _ (by simp)]⟩
 have b0:Hid (St w.heap.size h w h (((w.alloc (au #[af ae a.kind,ah a.text,ag al a.leads.length aL,ag aB a.kids.length ck] 26)).alloc (au #[af ae b.kind,ah b.text,ag bl b.leads.length aN,ag bk b.kids.length aM] 26)).alloc (au #[ag none 0 0,af ae 0,ay false,af ae 0,ag none 0 0] 76))):=(((St.refl cl.out).alloc _).alloc _).alloc _;have bq:(((w.alloc (au #[af ae a.kind,ah a.text,ag al a.leads.length aL,ag aB a.kids.length ck] 26)).alloc (au #[af ae b.kind,ah b.text,ag bl b.leads.length aN,ag bk b.kids.length aM] 26)).alloc (au #[ag none 0 0,af ae 0,ay false,af ae 0,ag none 0 0] 76)).heap.size=w.heap.size+3:=by simp
 generalize c9:((w.alloc (au #[af ae a.kind,ah a.text,ag al a.leads.length aL,ag aB a.kids.length ck] 26)).alloc (au #[af ae b.kind,ah b.text,ag bl b.leads.length aN,ag bk b.kids.length aM] 26)).alloc (au #[ag none 0 0,af ae 0,ay false,af ae 0,ag none 0 0] 76)=w0 at*;clear c9;have aQ:w.heap.size<w0.heap.size:=by omega
 have l2:w.heap.size+1<w0.heap.size:=by omega
 have ch:w.heap.size+2<w0.heap.size:=by omega
 clear bq
 go_region_held3(fun w'=>w'.cell? ⟨w.heap.size,0,none⟩=some (af ae a.kind)/\w'.cell? ⟨w.heap.size,1,none⟩=some (ah a.text)/\w'.cell? ⟨w.heap.size,2,none⟩=some (ag al a.leads.length aL)/\w'.cell? ⟨w.heap.size,3,none⟩=some (ag aB a.kids.length ck)/\w'.cell? ⟨w.heap.size+1,0,none⟩=some (af ae b.kind)/\w'.cell? ⟨w.heap.size+1,1,none⟩=some (ah b.text)/\w'.cell? ⟨w.heap.size+1,2,none⟩=some (ag bl b.leads.length aN)/\w'.cell? ⟨w.heap.size+1,3,none⟩=some (ag bk b.kids.length aM))
  (first|go_keep|exact⟨(ab.below.cell (p:=⟨w.heap.size,0,none⟩) aQ).trans a0,(ab.below.cell (p:=⟨w.heap.size,1,none⟩) aQ).trans b9,(ab.below.cell (p:=⟨w.heap.size,2,none⟩) aQ).trans cc,(ab.below.cell (p:=⟨w.heap.size,3,none⟩) aQ).trans cd,(ab.below.cell (p:=⟨w.heap.size+1,0,none⟩) l2).trans ce,(ab.below.cell (p:=⟨w.heap.size+1,1,none⟩) l2).trans b1,(ab.below.cell (p:=⟨w.heap.size+1,2,none⟩) l2).trans b2,(ab.below.cell (p:=⟨w.heap.size+1,3,none⟩) l2).trans b3⟩|exact⟨(am.below.cell (p:=⟨w.heap.size,0,none⟩) (bK aQ a1)).trans ((ab.below.cell (p:=⟨w.heap.size,0,none⟩) aQ).trans a0),(am.below.cell (p:=⟨w.heap.size,1,none⟩) (bK aQ a1)).trans ((ab.below.cell (p:=⟨w.heap.size,1,none⟩) aQ).trans b9),(am.below.cell (p:=⟨w.heap.size,2,none⟩) (bK aQ a1)).trans ((ab.below.cell (p:=⟨w.heap.size,2,none⟩) aQ).trans cc),(am.below.cell (p:=⟨w.heap.size,3,none⟩) (bK aQ a1)).trans ((ab.below.cell (p:=⟨w.heap.size,3,none⟩) aQ).trans cd),(am.below.cell (p:=⟨w.heap.size+1,0,none⟩) (bK l2 a1)).trans ((ab.below.cell (p:=⟨w.heap.size+1,0,none⟩) l2).trans ce),(am.below.cell (p:=⟨w.heap.size+1,1,none⟩) (bK l2 a1)).trans ((ab.below.cell (p:=⟨w.heap.size+1,1,none⟩) l2).trans b1),(am.below.cell (p:=⟨w.heap.size+1,2,none⟩) (bK l2 a1)).trans ((ab.below.cell (p:=⟨w.heap.size+1,2,none⟩) l2).trans b2),(am.below.cell (p:=⟨w.heap.size+1,3,none⟩) (bK l2 a1)).trans ((ab.below.cell (p:=⟨w.heap.size+1,3,none⟩) l2).trans b3)⟩)
  (first
   |(go_at_call 103;(with_reducible refine(xp h _ (by exact b0.out.I.drew) _ a cX.out (by have:=c6.out;omega)).mono ?_);rintro e w1 ⟨dW,h1,rfl,ab,cn⟩;have a1:w0.heap.size<=w1.heap.size:=ab.below.size)
   |(go_at_call 103;(with_reducible refine(xp h1 _ ab.I _ b (cY.out.mono ab.le) (by have:=c8.out;omega)).mono ?_);rintro e w2 ⟨dX,h2,rfl,am,co⟩;have d1:w1.heap.size<=w2.heap.size:=am.below.size))
 have aV:=aa ((b0.out.drew.call ab).call am);have a3:=aa (cn.mono am.le);have a4:=aa co;have aS:Hid (w.heap.size+2<w2.heap.size):=by unfold Hid;omega
 have bC:Hid (h2 (w.heap.size+2)=none):=by unfold Hid;rw[am.aI _ (by omega),ab.aI _ ch];exact bI cl.out _ (by omega)
 have J:Hid (∀W,Below w2.heap.size w2 W->∀i,W.cell? ⟨w.heap.size+2,i,none⟩=(#[ag none 0 0,af ae 0,ay false,af ae 0,ag none 0 0]:Array Value)[i]?/\W.frozen? ⟨w.heap.size+2,i,none⟩=false):=fun W cv i=>by rw[cv.cell aS.out,cv.frozen aS.out,am.below.cell (by show w.heap.size+2<_;omega),am.below.frozen (by show w.heap.size+2<_;omega),ab.below.cell ch,ab.below.frozen ch];exact cm.out i
 obtain⟨bx,dQ,dt,rfl,dG,cK⟩:=a3.out.gA dm;obtain⟨dp,dR,du,rfl,dO,cN⟩:=a4.out.gA dn;obtain⟨dv,cG⟩:=cK w2 aV.out.I;obtain⟨dw,cM⟩:=cN w2 aV.out.I;obtain⟨-,-,cS,-⟩:=cG 0 (by omega) (by omega);obtain⟨-,-,cU,-⟩:=cM 0 (by omega) (by omega);simp only[Int.toNat_zero,Nat.zero_mul,dz]at cS cU;clear ab am cn co cK cN cG cM a0 b9 cc cd ce b1 b2 b3 cm b0;generalize cB:aO a=x at*;generalize cC:aO b=y at*;have bz:=aa cB;have bA:=aa cC;clear cB cC;have dT:(0:Int)<(x.length:Int):=by omega
 have dU:(0:Int)<(y.length:Int):=by omega
 by_cases bd:(nd x 0).kind=(nd y 0).kind
 case neg=>
  have g1:=q0 bd;have O:Hid (bE (aO a) (aO b) budget={aR:=[],cost:=x.length+y.length,gT:=true,a7:=x.length+y.length,proof:=[]}):=by unfold Hid;rw[bz.out,bA.out];unfold bE;rw[if_neg bd]
  clear bd;go_wp2_with fail;go_quiet(fail);have G:Hid (Below w2.heap.size w2 (w2.drewN nq)):=(Below.refl _ _).drewN _;have aT:=aa (aV.out.drewN nq);have aY:(w2.drewN nq).cell? ⟨w.heap.size+2,0,none⟩=some (ag none 0 0):=(J.out _ G.out 0).1;have k1:(w2.drewN nq).cell? ⟨w.heap.size+2,1,none⟩=some (af ae 0):=(J.out _ G.out 1).1;have k2:(w2.drewN nq).cell? ⟨w.heap.size+2,2,none⟩=some (ay false):=(J.out _ G.out 2).1;have k3:(w2.drewN nq).cell? ⟨w.heap.size+2,3,none⟩=some (af ae 0):=(J.out _ G.out 3).1;have k4:(w2.drewN nq).cell? ⟨w.heap.size+2,4,none⟩=some (ag none 0 0):=(J.out _ G.out 4).1;have bq:=(J.out _ G.out 0).2;have bS:=(J.out _ G.out 1).2;have bT:=(J.out _ G.out 2).2;have bV:=(J.out _ G.out 3).2;have bX:=(J.out _ G.out 4).2;have dP:=aS.out;go_wp2_with fail;refine aF (v:=aq #[ag none 0 0,af ae ((x.length:Int)+y.length),ay true,af ae ((x.length:Int)+y.length),ag none 0 0]) (by simp[aH,sH,go_sem,aY,k1,k2,k3,k4]) rfl ?_;refine⟨_,rfl,_,pZ aT.out (by omega) bC.out _ _ _ _ _,none,0,none,0,by rw[O.out];rfl,?_,?_,?_,?_⟩;·rw[O.out];unfold aG;simp only;omega
  ·rw[O.out];unfold aG;simp only;omega
  ·rw[O.out];exact⟨Sl.nil _ _ _ _,by simp⟩
  ·rw[O.out];exact⟨[],Sl.nil _ _ _ _,by simp[aJ]⟩
 have g1:=Lm bd;have bB:=aa bd;clear bd;generalize cE:ct x=nx;have bG:=aa cE;clear cE;generalize cF:ct y=di;have bH:=aa cF;clear cF;go_wp2_with fail;go_quiet(fail);go_wp2_with fail;refine(wY h2 _ (aV.out.I.drewN _) _ x a3.out).mono ?_;rintro e w3 ⟨rfl,cz⟩;have bp:=aa ((St.refl aV.out.I).drewN nq|>.same cz);rw[show(decide (x.length<=262144)&&x.all fun n=>decide (n.kids.length<=400))=ct x from rfl,bG.out];clear cz cS cU;cases nx
 ·have O:Hid (bE (aO a) (aO b) budget=dr x y):=by unfold Hid;rw[bz.out,bA.out];unfold bE;rw[if_pos bB.out,if_neg (by rw[bG.out];simp)]
  go_upto_region 9 with fail;go_wp2_with fail;refine(tZ h2 _ bp.out.I _ _ x y (a3.out) (a4.out) a8.out a9.out bL bN).mono ?_;rintro e Y ⟨cj,rfl,ba,aj,ap,cp,ar,cr,rfl,bg,bm,ax,ak⟩;have ax:=aa ax;have ak:=aa ak;have G:=aa ((bp.out.call aj).below);have aT:=aa (aV.out.call (bp.out.call aj));have a2:Hid (ba (w.heap.size+2)=none):=by unfold Hid;rw[(bp.out.call aj).aI _ aS.out];exact bC.out
  clear aj;have cg:w.heap.size+2<Y.heap.size:=by have:=G.out.size;have:=aS.out;omega
  have aY:Y.cell? ⟨w.heap.size+2,0,none⟩=some (ag none 0 0):=(J.out _ G.out 0).1;have k1:Y.cell? ⟨w.heap.size+2,1,none⟩=some (af ae 0):=(J.out _ G.out 1).1;have k2:Y.cell? ⟨w.heap.size+2,2,none⟩=some (ay false):=(J.out _ G.out 2).1;have k3:Y.cell? ⟨w.heap.size+2,3,none⟩=some (af ae 0):=(J.out _ G.out 3).1;have k4:Y.cell? ⟨w.heap.size+2,4,none⟩=some (ag none 0 0):=(J.out _ G.out 4).1;have bq:=(J.out _ G.out 0).2;have bS:=(J.out _ G.out 1).2;have bT:=(J.out _ G.out 2).2;have bV:=(J.out _ G.out 3).2;have bX:=(J.out _ G.out 4).2;go_wp2_with fail;refine aF (v:=aq #[ag ap (dr x y).aR.length cp,af ae (dr x y).cost,ay (dr x y).gT,af ae (dr x y).a7,ag ar (dr x y).proof.length cr]) (by simp[aH,sH,go_sem,aY,k1,k2,k3,k4]) rfl ?_;exact⟨_,rfl,_,pZ aT.out (by omega) a2.out _ _ _ _ _,ap,cp,ar,cr,by rw[O.out],by rw[O.out];exact bg,by rw[O.out];exact bm,by rw[O.out];exact ax.out,by rw[O.out];exact ak.out⟩
 go_wp2_with fail;refine(wY h2 _ bp.out.I _ y a4.out).mono ?_;rintro e dY ⟨rfl,cA⟩;have a5:=aa (bp.out.same cA);rw[show(decide (y.length<=262144)&&y.all fun n=>decide (n.kids.length<=400))=ct y from rfl,bH.out];clear cA;cases di
 ·have O:Hid (bE (aO a) (aO b) budget=dr x y):=by unfold Hid;rw[bz.out,bA.out];unfold bE;rw[if_pos bB.out,if_neg (by rw[bH.out];simp)]
  go_upto_region 9 with fail;go_wp2_with fail;refine(tZ h2 _ a5.out.I _ _ x y (a3.out) (a4.out) a8.out a9.out bL bN).mono ?_;rintro e Y ⟨cj,rfl,ba,aj,ap,cp,ar,cr,rfl,bg,bm,ax,ak⟩;have ax:=aa ax;have ak:=aa ak;have G:=aa ((a5.out.call aj).below);have aT:=aa (aV.out.call (a5.out.call aj));have a2:Hid (ba (w.heap.size+2)=none):=by unfold Hid;rw[(a5.out.call aj).aI _ aS.out];exact bC.out
  clear aj;have cg:w.heap.size+2<Y.heap.size:=by have:=G.out.size;have:=aS.out;omega
  have aY:Y.cell? ⟨w.heap.size+2,0,none⟩=some (ag none 0 0):=(J.out _ G.out 0).1;have k1:Y.cell? ⟨w.heap.size+2,1,none⟩=some (af ae 0):=(J.out _ G.out 1).1;have k2:Y.cell? ⟨w.heap.size+2,2,none⟩=some (ay false):=(J.out _ G.out 2).1;have k3:Y.cell? ⟨w.heap.size+2,3,none⟩=some (af ae 0):=(J.out _ G.out 3).1;have k4:Y.cell? ⟨w.heap.size+2,4,none⟩=some (ag none 0 0):=(J.out _ G.out 4).1;have bq:=(J.out _ G.out 0).2;have bS:=(J.out _ G.out 1).2;have bT:=(J.out _ G.out 2).2;have bV:=(J.out _ G.out 3).2;have bX:=(J.out _ G.out 4).2;go_wp2_with fail;refine aF (v:=aq #[ag ap (dr x y).aR.length cp,af ae (dr x y).cost,ay (dr x y).gT,af ae (dr x y).a7,ag ar (dr x y).proof.length cr]) (by simp[aH,sH,go_sem,aY,k1,k2,k3,k4]) rfl ?_;exact⟨_,rfl,_,pZ aT.out (by omega) a2.out _ _ _ _ _,ap,cp,ar,cr,by rw[O.out],by rw[O.out];exact bg,by rw[O.out];exact bm,by rw[O.out];exact ax.out,by rw[O.out];exact ak.out⟩
 generalize hc:fB x y budget=dk;have bO:=aa hc;clear hc;go_wp2_with fail;refine(DP h2 _ a5.out.I _ _ x y budget cV.out a3.out a4.out a8.out a9.out bB.out bL bN).mono ?_;rintro e cQ ⟨bR,aZ,bJ⟩;rw[bO.out]at bJ;cases dk with
 |none=>
  simp only at bJ;subst bJ;have O:Hid (bE (aO a) (aO b) budget=dr x y):=by unfold Hid;rw[bz.out,bA.out];unfold bE;rw[if_pos bB.out,if_pos ⟨bG.out,bH.out⟩,bO.out]
  have aX:Hid (St w2.heap.size h2 w2 bR cQ):=a5.out.call aZ;have bY:=aa (a3.out.mono aZ.le);have bZ:=aa (a4.out.mono aZ.le);clear aZ;go_upto_region 9 with fail;go_wp2_with fail;refine(tZ bR _ aX.out.I _ _ x y bY.out bZ.out a8.out a9.out bL bN).mono ?_;rintro e Y ⟨cj,rfl,ba,aj,ap,cp,ar,cr,rfl,bg,bm,ax,ak⟩;have ax:=aa ax;have ak:=aa ak;have G:=aa ((aX.out.call aj).below);have aT:=aa (aV.out.call (aX.out.call aj));have a2:Hid (ba (w.heap.size+2)=none):=by unfold Hid;rw[(aX.out.call aj).aI _ aS.out];exact bC.out
  clear aj;have cg:w.heap.size+2<Y.heap.size:=by have:=G.out.size;have:=aS.out;omega
  have aY:Y.cell? ⟨w.heap.size+2,0,none⟩=some (ag none 0 0):=(J.out _ G.out 0).1;have k1:Y.cell? ⟨w.heap.size+2,1,none⟩=some (af ae 0):=(J.out _ G.out 1).1;have k2:Y.cell? ⟨w.heap.size+2,2,none⟩=some (ay false):=(J.out _ G.out 2).1;have k3:Y.cell? ⟨w.heap.size+2,3,none⟩=some (af ae 0):=(J.out _ G.out 3).1;have k4:Y.cell? ⟨w.heap.size+2,4,none⟩=some (ag none 0 0):=(J.out _ G.out 4).1;have bq:=(J.out _ G.out 0).2;have bS:=(J.out _ G.out 1).2;have bT:=(J.out _ G.out 2).2;have bV:=(J.out _ G.out 3).2;have bX:=(J.out _ G.out 4).2;go_wp2_with fail;refine aF (v:=aq #[ag ap (dr x y).aR.length cp,af ae (dr x y).cost,ay (dr x y).gT,af ae (dr x y).a7,ag ar (dr x y).proof.length cr]) (by simp[aH,sH,go_sem,aY,k1,k2,k3,k4]) rfl ?_;exact⟨_,rfl,_,pZ aT.out (by omega) a2.out _ _ _ _ _,ap,cp,ar,cr,by rw[O.out],by rw[O.out];exact bg,by rw[O.out];exact bm,by rw[O.out];exact ax.out,by rw[O.out];exact ak.out⟩
 |some l=>
  simp only at bJ;obtain⟨vl,rfl,cu⟩:=bJ;have O:Hid (bE (aO a) (aO b) budget=iO x y (cq l)):=by unfold Hid;rw[bz.out,bA.out];unfold bE;rw[if_pos bB.out,if_pos ⟨bG.out,bH.out⟩,bO.out]
  have aX:Hid (St w2.heap.size h2 w2 bR cQ):=a5.out.call aZ;have bY:=aa (a3.out.mono aZ.le);have bZ:=aa (a4.out.mono aZ.le);have cZ:=aa cu;have bv:=aa (rq a8.out a9.out bO.out).1;have dA:=bv.out.len;have dN:x.length*y.length<=262144*262144:=Nat.mul_le_mul bL bN;clear aZ cu;go_wp2_with fail;refine(Ep bR _ aX.out.I _ _ _ x y (cq l) bY.out bZ.out a8.out a9.out bG.out bH.out cZ.out (xR bv.out.nodup) (fun p hp=>bv.out.inr p (kh.1 hp)) (kh.2 (pY bv.out).1) (fun p hp q dh=>kh.2 ((pY bv.out).2 p (kh.1 hp) q dh)) (by rw[xQ];omega)).mono ?_;rintro e Y ⟨cj,rfl,ba,aj,ap,cp,ar,cr,rfl,bg,bm,ax,ak⟩;have ax:=aa ax;have ak:=aa ak;have G:=aa ((aX.out.call aj).below);have aT:=aa (aV.out.call (aX.out.call aj));have a2:Hid (ba (w.heap.size+2)=none):=by unfold Hid;rw[(aX.out.call aj).aI _ aS.out];exact bC.out
  clear aj;have cg:w.heap.size+2<Y.heap.size:=by have:=G.out.size;have:=aS.out;omega
  have aY:Y.cell? ⟨w.heap.size+2,0,none⟩=some (ag none 0 0):=(J.out _ G.out 0).1;have k1:Y.cell? ⟨w.heap.size+2,1,none⟩=some (af ae 0):=(J.out _ G.out 1).1;have k2:Y.cell? ⟨w.heap.size+2,2,none⟩=some (ay false):=(J.out _ G.out 2).1;have k3:Y.cell? ⟨w.heap.size+2,3,none⟩=some (af ae 0):=(J.out _ G.out 3).1;have k4:Y.cell? ⟨w.heap.size+2,4,none⟩=some (ag none 0 0):=(J.out _ G.out 4).1;have bq:=(J.out _ G.out 0).2;have bS:=(J.out _ G.out 1).2;have bT:=(J.out _ G.out 2).2;have bV:=(J.out _ G.out 3).2;have bX:=(J.out _ G.out 4).2;go_wp2_with fail;refine aF (v:=aq #[ag ap (iO x y (cq l)).aR.length cp,af ae (iO x y (cq l)).cost,ay (iO x y (cq l)).gT,af ae (iO x y (cq l)).a7,ag ar (iO x y (cq l)).proof.length cr]) (by simp[aH,sH,go_sem,aY,k1,k2,k3,k4]) rfl ?_;exact⟨_,rfl,_,pZ aT.out (by omega) a2.out _ _ _ _ _,ap,cp,ar,cr,by rw[O.out],by rw[O.out];exact bg,by rw[O.out];exact bm,by rw[O.out];exact ax.out,by rw[O.out];exact ak.out⟩
structure cF where
 module:Nat
 number:Nat
 t:Tree
def dt(m:Nat):Nat->List Tree->List cF
 |_,[]=>[]
 |n,d::ds=>⟨m,n,d⟩::dt m (n+d.size) ds
def aj:Nat->List Tree->List cF
 |_,[]=>[]
 |m,t::ts=>dt m 1 t.kids++aj (m+1) ts
abbrev lU:=Int×ByteArray
def bX(ks:List Tree):List (lU×Value):=ks.foldl (fun l d=>aY l (d.kind,d.text) (ay true)) []
section
variable {K:Type} [DecidableEq K]
def fw(lB:List Int)(key:Nat->Option K)(rest:List (K×List Nat))(i:Nat):List (K×List Nat):=
 match key i with
 |some k=>if lB.getD i 0<0 then aY rest k ((aT rest k).getD []++[i])else rest
 |none=>rest
def iK(lB:List Int)(key:Nat->Option K)(n:Nat):List (K×List Nat):=(aw n).foldl (fw lB key) []
def gx(key:Nat->Option K)(s:List (K×List Nat)×List Int×List Int)(j:Nat):List (K×List Nat)×List Int×List Int:=
 match key j with
 |none=>s
 |some k=>if 0<=s.2.2.getD j 0 then s else match(aT s.1 k).getD []with
  |[]=>s
  |i::r=>(aY s.1 k r,s.2.1.set i (j:Int),s.2.2.set j (i:Int))
def dh(aI new:List Int)(ok nk:Nat->Option K):List Int×List Int:=
 ((aw new.length).foldl (gx nk) (iK aI ok aI.length,aI,new)).2
end
def dp(lB:List Int):List Nat:=(aw lB.length).filter fun i=>decide (lB.getD i 0<0)
def fV(p q:Int×Int):Prop:=p.1<q.1\/p.1=q.1/\p.2<q.2
instance(p q:Int×Int):Decidable (fV p q):=by unfold fV;infer_instance
theorem xS{p q:Int×Int}(h:fV p q):¬fV q p:=by unfold fV at*;omega
theorem xT(p:Int×Int):¬fV p p:=by unfold fV;omega
theorem Er{p q:Int×Int}(h:p≠q):fV p q\/fV q p:=by
 unfold fV
 have:p.1≠q.1\/p.2≠q.2:=by
  rcases Decidable.em (p.1=q.1)with h1|h1;·exact .inr fun h2=>h (Prod.ext h1 h2)
  ·exact .inl h1
 omega
theorem xU:∀{l m:List (Int×Int)},l.Perm m->l.Pairwise fV->m.Pairwise fV->l=m
 |[],m,h,_,_=>by rw[List.nil_perm.1 h]
 |a::l,[],h,_,_=>by have:=h.length_eq;simp at this
 |a::l,b::m,h,G,hm=>by
  have e:a=b:=by
   have h1:a∈b::m:=h.mem_iff.1 (by simp);have h2:b∈a::l:=h.mem_iff.2 (by simp);rcases b8.1 h1 with h1|h1;·exact h1
   ·rcases b8.1 h2 with h2|h2;·exact h2.symm
    ·exact absurd ((fJ.1 G).1 b h2) (xS ((fJ.1 hm).1 a h1))
  subst e;rw[xU (List.Perm.cons_inv h) (fJ.1 G).2 (fJ.1 hm).2]
theorem Ls{l:List (Int×Int)}(hn:l.Nodup):(cq l).Pairwise fV:=by
 have hp:(cq l).Perm l:=po l _;have J:(cq l).Nodup:=hp.nodup_iff.2 hn
 have hs:(cq l).Pairwise fun x y=>(!decide (kR y x<0))=true:=List.pairwise_mergeSort (fun a b c h1 h2=>by
  simp only[vI,decide_eq_false_iff_not,nM]at*;omega) (fun a b=>by
  simp only[Bool.or_eq_true,vI,decide_eq_false_iff_not,nM];omega) l
 refine(hs.and J).imp ?_;rintro a b ⟨h1,h2⟩;simp only[vI,decide_eq_false_iff_not,nM]at h1;rcases Er h2 with G|G;·exact G
 ·exact absurd G h1
theorem Es{l m:List (Int×Int)}(h:l.Perm m)(hm:m.Pairwise fV):cq l=m:=by
 have hn:m.Nodup:=hm.imp fun{a b} G e=>by subst e;exact xT _ G
 exact xU ((po l _).trans h) (Ls (h.nodup_iff.2 hn)) hm
def iB(x:List aB):Int->Int->List Int->Prop
 |s,e,[]=>s=e
 |s,e,c::cs=>c=s/\iB x (s+(nd x c).size) e cs
theorem yM{X:List aB}{n:Nat}{v:aB}(h:X[n]? =some v):nd X (n:Int)=v:=nL h
mutual
theorem yN:∀(t:Tree) (p:Int) (n:Nat) (X:List aB),(∀m,m<t.size->X[n+m]? =(ej t p n)[m]?)->∀m,m<t.size->iB X (((n+m:Nat):Int)+1) (((n+m:Nat):Int)+(nd X ((n+m:Nat):Int)).size) (nd X ((n+m:Nat):Int)).kids
 | .node k s l G,p,n,X,h,m,hm=>by
  have O:=yO G n (n+1) X (fun m hm=>by have:=h (m+1) (by rw[Tree.size];omega);rw[ej,List.getElem?_cons_succ]at this;rw[<-this];congr 1;omega)
  cases m with
  |zero=>
   have J:=h 0 hm;rw[ej,bc]at J;rw[yM J];simp only[dz];have e:((n:Int)+((ax G:Int)+1))=((n+1:Nat):Int)+(ax G:Int):=by omega
   rw[e];exact O.1
  |succ m=>have:=O.2 m (by rw[Tree.size]at hm;omega);rw[show n+1+m=n+(m+1) by omega]at this;exact this
theorem yO:∀(ts:List Tree) (p n:Nat) (X:List aB),(∀m,m<ax ts->X[n+m]? =(eJ ts p n)[m]?)->iB X (n:Int) ((n:Int)+(ax ts:Int)) (dC ts n)/\∀m,m<ax ts->iB X (((n+m:Nat):Int)+1) (((n+m:Nat):Int)+(nd X ((n+m:Nat):Int)).size) (nd X ((n+m:Nat):Int)).kids
 |[],p,n,X,h=>by refine⟨by simp[dC,iB,ax],fun m hm=>by simp[ax]at hm⟩
 |t::ts,p,n,X,h=>by
  have hp:0<t.size:=by have:=t.size_eq;omega
  have h1:∀m,m<t.size->X[n+m]? =(ej t p n)[m]? :=fun m hm=>by rw[h m (by rw[gR];omega),w8,jD (by rw[lN];exact hm)]
  have h2:∀m,m<ax ts->X[n+t.size+m]? =(eJ ts p (n+t.size))[m]? :=fun m hm=>by have:=h (t.size+m) (by rw[gR];omega);rw[w8,ih (by rw[lN];omega),lN,Nat.add_sub_cancel_left]at this;rw[<-this,Nat.add_assoc]
  have k1:=yN t p n X h1;have k2:=yO ts p (n+t.size) X h2;refine⟨?_,?_⟩
  ·rw[dC,iB];refine⟨rfl,?_⟩;have G:=h1 0 hp;rw[w7,bc,dz]at G;rw[yM G,gR];have e:(n:Int)+(t.size:Int)=((n+t.size:Nat):Int):=by omega
   have O:(n:Int)+((t.size+ax ts:Nat):Int)=((n+t.size:Nat):Int)+(ax ts:Int):=by omega
   rw[O];simp only;rw[e];exact k2.1
  ·intro m hm;rcases b7 m t.size with J|J;·exact k1 m J
   ·have:=k2.2 (m-t.size) (by rw[gR]at hm;omega);rw[show n+t.size+(m-t.size)=n+m by omega]at this;exact this
end
structure PO(x:List aB):Prop where
 wf:WF x
 sp:∀i:Int,0<=i->i<x.length->iB x (i+1) (i+(nd x i).size) (nd x i).kids
theorem kr(t:Tree):PO (aO t):=by refine⟨q4 t,fun i G h1=> ?_⟩;have:=yN t (-1) 0 (aO t) (fun m _=>by rw[Nat.zero_add];rfl) i.toNat (by rw[nJ]at h1;omega);rw[show((0+i.toNat:Nat):Int)=i by omega]at this;exact this
theorem iB.bd{x:List aB}:∀{cs:List Int} {s e:Int},iB x s e cs->(∀c∈cs,1<=(nd x c).size)->s<=e/\∀c∈cs,s<=c/\c+(nd x c).size<=e
 |[],s,e,h,_=>by simp only[iB]at h;subst h;exact⟨by omega,fun c hc=>by simp at hc⟩
 |c::cs,s,e,h,hs=>by
  obtain⟨rfl,h⟩:=h;have h1:=hs c (by simp);obtain⟨a,b⟩:=iB.bd h (fun d hd=>hs d (by simp[hd]));refine⟨by omega,fun d hd=> ?_⟩;rcases b8.1 hd with rfl|hd;·omega
  ·have:=b d hd;omega
theorem iB.sep{x:List aB}:∀{cs:List Int} {s e:Int},iB x s e cs->(∀c∈cs,1<=(nd x c).size)->cs.Pairwise fun c d=>c+(nd x c).size<=d
 |[],s,e,_,_=>by simp
 |c::cs,s,e,h,hs=>by obtain⟨rfl,h⟩:=h;rw[fJ];exact⟨fun d hd=>((iB.bd h (fun d hd=>hs d (by simp[hd]))).2 d hd).1,iB.sep h (fun d hd=>hs d (by simp[hd]))⟩
theorem PO.b4{x:List aB}(p:PO x){i c:Int}(G:0<=i)(h1:i<x.length)(hc:c∈(nd x i).kids):i+1<=c/\c+(nd x c).size<=i+(nd x i).size:=
 ((p.sp i G h1).bd (fun d hd=>by obtain⟨J,O,_⟩:=eK p.wf G h1 hd;exact nP p.wf J O)).2 c hc
theorem yP{R:Int->Int->Prop}:∀{l:List Int},l.Pairwise (·<·)->l.Pairwise R->∀{a b:Int},a∈l->b∈l->a<b->R a b
 |u::l,h1,h2,a,b,ha,O,Y=>by
  rw[fJ]at h1 h2;rcases b8.1 ha with e|J
  ·rcases b8.1 O with e'|G;·omega
   ·rw[e];exact h2.1 b G
  ·rcases b8.1 O with e'|G;·have:=h1.1 a J;omega
   ·exact yP h1.2 h2.2 J G Y
theorem PO.sep{x:List aB}(p:PO x){i c d:Int}(G:0<=i)(h1:i<x.length)(hc:c∈(nd x i).kids)(hd:d∈(nd x i).kids)(Y:c<d):c+(nd x c).size<=d:=
 yP (p.wf.gU i.toNat _ (gV G h1)) ((p.sp i G h1).sep (fun d hd=>by obtain⟨J,O,_⟩:=eK p.wf G h1 hd;exact nP p.wf J O)) hc hd Y
def c8(k:Int×Int->List (Int×Int)):Nat->Int×Int->List (Int×Int)
 |0,_=>[]
 |f+1,p=>p::(k p).flatMap (c8 k f)
structure KA(x y:List aB)(k:Int×Int->List (Int×Int)):Prop where
 kf:KF x y k
 gU:∀p,bZ x y p->c6 (k p)
section
variable {x y:List aB} {k:Int×Int->List (Int×Int)}
theorem KA.kids(K:KA x y k)(Y:PO x)(ab:PO y){p q:Int×Int}(hp:bZ x y p)(O:q∈k p):bZ x y q/\q.1∈(nd x p.1).kids/\q.2∈(nd y p.2).kids:=by obtain⟨h1,_,G,J⟩:=K.kf.inr p hp q O;have g1:=rh Y.wf h1.1 h1.2.1 (by rw[G];exact hp.1);have g2:=rh ab.wf h1.2.2.1 h1.2.2.2 (by rw[J];exact hp.2.2.1);rw[G]at g1;rw[J]at g2;exact⟨h1,g1,g2⟩
theorem qa(K:KA x y k)(G:PO x)(J:PO y):∀(f:Nat) (p:Int×Int),bZ x y p->∀r∈c8 k f p,bZ x y r/\p.1<=r.1/\r.1<p.1+(nd x p.1).size/\p.2<=r.2/\r.2<p.2+(nd y p.2).size
 |0,p,_,r,hr=>by simp[c8]at hr
 |f+1,p,hp,r,hr=>by
  rw[c8]at hr;rcases b8.1 hr with rfl|hr;·have:=nP G.wf hp.1 hp.2.1;have:=nP J.wf hp.2.2.1 hp.2.2.2;exact⟨hp,by omega,by omega,by omega,by omega⟩
  ·obtain⟨q,O,hr⟩:=hM.1 hr;obtain⟨Y,ab,aj⟩:=K.kids G J hp O;obtain⟨r0,r1,r2,ak,am⟩:=qa K G J f q Y r hr;have a:=G.b4 hp.1 hp.2.1 ab;have b:=J.b4 hp.2.2.1 hp.2.2.2 aj;exact⟨r0,by omega,by omega,by omega,by omega⟩
theorem uD(K:KA x y k)(G:PO x)(J:PO y):∀(f:Nat) (p:Int×Int),bZ x y p->c6 (c8 k f p)
 |0,p,_=>by simp[c8,c6]
 |f+1,p,hp=>by
  rw[c8];unfold c6;rw[fJ];refine⟨fun r hr=> ?_,?_⟩;·obtain⟨q,O,hr⟩:=hM.1 hr;obtain⟨Y,ab,aj⟩:=K.kids G J hp O;obtain⟨r0,r1,r2,am,ax⟩:=qa K G J f q Y r hr;have a:=G.b4 hp.1 hp.2.1 ab;have b:=J.b4 hp.2.2.1 hp.2.2.2 aj;omega
  ·rw[List.pairwise_flatMap];refine⟨fun q O=>uD K G J f q (K.kids G J hp O).1,?_⟩;refine pj ?_ (K.gU p hp);intro q r O hr ak u ao v hv;obtain⟨Y,ab,aj⟩:=K.kids G J hp O;obtain⟨r1,r2,am⟩:=K.kids G J hp hr;obtain⟨_,aB,aG,aJ,aL⟩:=qa K G J f q Y u ao;obtain⟨_,aM,aN,aO,aP⟩:=qa K G J f r r1 v hv;have a:=G.sep hp.1 hp.2.1 ab r2 ak.1;have b:=J.sep hp.2.2.1 hp.2.2.2 aj am ak.2;omega
theorem yQ(_K:KF x y k){f:Nat}{p:Int×Int}(hp:bZ x y p)(h:(x.length:Int)-p.1<=f):p∈c8 k f p:=by
 obtain⟨f,rfl⟩:∃g,f=g+1:=⟨f-1,by have:=hp.2.1;omega⟩
 rw[c8];simp
theorem yR(K:KF x y k):∀(f:Nat) (p:Int×Int),bZ x y p->(x.length:Int)-p.1<=f->∀r∈c8 k f p,∀q∈k r,q∈c8 k f p
 |0,p,hp,h,r,hr,q,G=>by simp[c8]at hr
 |f+1,p,hp,h,r,hr,q,G=>by
  rw[c8]at hr⊢;refine cW _ (hM.2 ?_);rcases b8.1 hr with rfl|hr;·obtain⟨J,Y,_⟩:=K.inr r hp q G;exact⟨q,G,yQ K J (by omega)⟩
  ·obtain⟨s,hs,hr⟩:=hM.1 hr;obtain⟨O,ab,_⟩:=K.inr p hp s hs;exact⟨s,hs,yR K f s O (by omega) r hr q G⟩
theorem yS{l:List (Int×Int)}(hc:∀p∈l,∀q∈k p,q∈l):∀(f:Nat) (p:Int×Int),p∈l->∀r∈c8 k f p,r∈l
 |0,p,_,r,hr=>by simp[c8]at hr
 |f+1,p,hp,r,hr=>by
  rw[c8]at hr;rcases b8.1 hr with rfl|hr;·exact hp
  ·obtain⟨q,G,hr⟩:=hM.1 hr;exact yS hc f q (hc p hp q G) r hr
theorem rI(G:PO x)(J:PO y):bZ x y (0,0):=⟨by simp,by have:=G.wf.pos;simp only;omega,by simp,by have:=J.wf.pos;simp only;omega⟩
theorem F5{l:List (Int×Int)}(h:c6 l):l.Pairwise fV:=h.imp fun G=> .inl G.1
theorem F6{l:List (Int×Int)}(h:c6 l):l.Nodup:=h.imp fun{a b} G e=>by subst e;omega
theorem F7(K:KF x y k)(O:PO x)(Y:PO y){l:List (Int×Int)}(g:Good x y k l l.length):∀(n:Nat) (r:Int×Int),r∈l->r.1<=n->r∈c8 k x.length (0,0):=by
 intro n;induction n using Nat.strongRecOn with
 |_ n ab=>
  intro r hr hn;rw[g.eq,cP]at hr;rcases b8.1 hr with rfl|hr;·exact yQ K (rI O Y) (by simp)
  ·obtain⟨p,hp,J⟩:=hM.1 hr;have G:=g.inr p hp;obtain⟨ak,am,_⟩:=K.inr p G r J;have aj:=G.1;exact yR K _ _ (rI O Y) (by simp) p (ab (p.1.toNat) (by omega) p hp (by omega)) r J
theorem yT(K:KA x y k)(G:PO x)(J:PO y){l:List (Int×Int)}(g:Good x y k l l.length):cq l=c8 k x.length (0,0):=by
 have ha:=uD K G J x.length (0,0) (rI G J);refine Es ((List.perm_ext_iff_of_nodup g.nodup (F6 ha)).2 fun r=>⟨fun hr=> ?_,fun hr=> ?_⟩) (F5 ha);·exact F7 K.kf G J g r.1.toNat r hr (by omega)
 ·obtain⟨c1,c2⟩:=pY g;exact yS c2 _ _ c1 r hr
def eO(x y:List aB)(l:List (Int×Int)):Int:=(l.map fun p=>cZ (nd x p.1).text (nd y p.2).text-2).sum
theorem F8{pre:List (Int×Int)}{p:Int×Int}{ps:List (Int×Int)}(h:c6 (pre++p::ps))(G:0<=p.1/\0<=p.2):(fe pre).1<p.1/\(fe pre).2<p.2:=by
 rcases List.eq_nil_or_concat pre with rfl|⟨a,z,rfl⟩;·simp[fe];omega
 ·unfold fe;rw[BP,List.getLastD_concat];rw[BP]at h;exact(qE.1 h).2.2 z (by simp) p (by simp)
theorem yU(ak:PO x)(aB:PO y):∀(ps pre:List (Int×Int)) (c:Int),c6 (pre++ps)->(∀q∈pre++ps,bZ x y q/\(nd x q.1).kind=(nd y q.2).kind)->(pre++ps).head?=some (0,0)->(∀q∈ps,q≠(0,0)->fC x y q∈pre++ps)->gB x y pre ps c=some (c+eO x y ps)
 |[],pre,c,_,_,_,_=>by simp[gB,eO]
 |p::ps,pre,c,ha,ab,J,hp=>by
  have G:=ab p (by simp);have aj:=F8 ha ⟨G.1.1,G.1.2.2.1⟩
  have Y:p=(0,0)↔pre=[]:=by
   constructor
   ·intro e;cases pre with
    |nil=>rfl
    |cons z pre=>exfalso;simp only[GP,KC,aC]at J;have:=(fJ.1 ha).1 p (by simp);rw[J,e]at this;simp at this
   ·intro e;subst e;simpa using J
  have am:kg x y pre p:=by
   refine⟨aj.1,aj.2,G.1.2.1,G.1.2.2.2,G.2,Y,?_⟩;by_cases e:p=(0,0);·exact .inl e
   ·right;have hm:=hp p (by simp) e;have O:pre≠[]:=fun h=>e (Y.2 h);rcases List.mem_append.1 hm with hm|hm;·exact hm
    ·exfalso
     have aL:0<p.1:=by
      cases pre with
      |nil=>exact absurd rfl O
      |cons z pre=>simp only[GP,KC,aC]at J;have:=(fJ.1 ha).1 p (by simp);rw[J]at this;exact this.1
     obtain⟨j,aN,_,aM,ax,_⟩:=ak.wf.par p.1.toNat _ (gV G.1.1 G.1.2.1) (by omega);have aJ:(fC x y p).1<p.1:=by unfold fC;simp only;rw[ax];omega
     have aG:p.1<=(fC x y p).1:=by
      rcases b8.1 hm with h|h;·rw[h];omega
      ·have:=(fJ.1 (qE.1 ha).2.1).1 _ h;omega
     omega
  rw[gB,if_pos am,yU ak aB ps (pre++[p]) _ (by simpa using ha) (by simpa using ab) (by simpa using J) (fun q ao O=>by have:=hp q (by simp[ao]) O;simpa using this)]
  simp only[eO,cR,GS,aC];omega
theorem uE(O:PO x)(Y:PO y){l:List (Int×Int)}(ha:c6 l)(J:∀q∈l,bZ x y q/\(nd x q.1).kind=(nd y q.2).kind)(G:l.head?=some (0,0))(hp:∀q∈l,q≠(0,0)->fC x y q∈l):dP x y l=some (x.length+y.length+eO x y l):=by unfold dP;exact yU O Y l [] _ (by simpa using ha) (by simpa using J) (by simpa using G) (by simpa using hp)
theorem yV(K:KF x y k):∀(f:Nat) (p:Int×Int),bZ x y p->∀q∈c8 k f p,q≠p->fC x y q∈c8 k f p
 |0,p,_,q,G,_=>by simp[c8]at G
 |f+1,p,hp,q,G,J=>by
  rw[c8]at G⊢;rcases b8.1 G with h|G;·exact absurd h J
  ·obtain⟨s,hs,G⟩:=hM.1 G;obtain⟨O,_,Y,ab⟩:=K.inr p hp s hs;by_cases e:q=s;·subst e;have:fC x y q=p:=Prod.ext Y ab;rw[this];simp
   ·exact cW _ (hM.2 ⟨s,hs,yV K f s O q G e⟩)
theorem yW{Q:Int×Int->Prop}(K:KF x y k)(J:∀p,bZ x y p->∀q∈k p,Q q):∀(f:Nat) (p:Int×Int),bZ x y p->Q p->∀q∈c8 k f p,Q q
 |0,p,_,_,q,G=>by simp[c8]at G
 |f+1,p,hp,h,q,G=>by
  rw[c8]at G;rcases b8.1 G with rfl|G;·exact h
  ·obtain⟨s,hs,G⟩:=hM.1 G;exact yW K J f s (K.inr p hp s hs).1 (J p hp s hs) q G
theorem yX(K:KA x y k)(G:PO x)(O:PO y)(aj:∀p,bZ x y p->∀q∈k p,(nd x q.1).kind=(nd y q.2).kind)(ab:(nd x 0).kind=(nd y 0).kind):dP x y (c8 k x.length (0,0))=some (x.length+y.length+eO x y (c8 k x.length (0,0))):=by
 have J:=rI G O;refine uE G O (uD K G O _ _ J) (fun q Y=>⟨(qa K G O _ _ J q Y).1,yW (Q:=fun q=>(nd x q.1).kind=(nd y q.2).kind) K.kf aj _ _ J ab q Y⟩) ?_ (yV K.kf _ _ J);have:=G.wf.pos;obtain⟨n,hn⟩:∃n,x.length=n+1:=⟨x.length-1,by omega⟩
 rw[hn,c8];rfl
theorem qc(p:Int×Int)(l:List (Int×Int)):eO x y (p::l)=cZ (nd x p.1).text (nd y p.2).text-2+eO x y l:=by simp[eO]
theorem F9(l m:List (Int×Int)):eO x y (l++m)=eO x y l+eO x y m:=by simp[eO]
theorem yY(g:Int×Int->List (Int×Int)):∀(l:List (Int×Int)),eO x y (l.flatMap g)=(l.map fun q=>eO x y (g q)).sum
 |[]=>rfl
 |q::l=>by rw[List.flatMap_cons,F9,yY g l,cR,GS]
theorem qd(x y:List aB):∀(l:List (Int×Int)),-2*(l.length:Int)<=eO x y l/\eO x y l<=-(l.length:Int)
 |[]=>by simp[eO]
 |p::l=>by have:=qd x y l;have:=mM (nd x p.1).text (nd y p.2).text;rw[qc,bF];omega
end
def ud(s:ByteArray):Tree:= .node 10 s [] []
def Et(t:Tree):Tree:= .node 17 ⟨#[]⟩ [] [t]
def xV(ts:List Tree):Tree:= .node 16 ⟨#[102]⟩ [] (ts.map Et)
def Eu:Tree:=xV [ud ⟨#[49]⟩,ud ⟨#[50]⟩]
def Ev:Tree:=xV [ud ⟨#[50]⟩]
def tC:kd:=bE (aO Eu) (aO Ev) 0
theorem Ew(w:World):ao (fun _=>none) w:=fun _ _ h=>by cases h
section
variable {w:World} {g1:Nat} {ca cb:Array Value} {h7 lT:Hp} {ap ar KN KO:Option Addr} {cp cr KP KQ:Nat} {iP:World}
end
open Go.RowKit Go.ChangeShapes Go.WideShapes
theorem Ex(w:World):ao (bi w) w:=fun _ _ h=>h
theorem xW{w:World}{a:Addr}{v:Value}(h:w.cell? a=some v):a.spot=none/\∃c,bi w a.block=some c/\c[a.off]? =some v:=by
 unfold World.cell? at h;split at h
 ·rename_i c e f G;split at h;·cases h
  ·rename_i hs;refine⟨by simpa using hs,c,by simp[bi,G],h⟩
 ·cases h
theorem Ey{H:Type}(d:DataW H)(r:List (DataW H)):Rows.uptoBulkAll (d::r)=Rows.uptoBulk d+Rows.uptoBulkAll r:=by rw[Rows.uptoBulkAll]
section
variable {H:Type} {enc:TypeId×Value->H} {w:World} {sp:Nat->Bool} {held:Bool}
theorem xX{α:Type}(R:α->List Value->Prop)(m:α->Nat)(k:Nat)(b off:Nat):∀(els:List (DataW H×List MemPlace)) (j:Nat),(∀i (J:i<els.length),∃x c,R x c/\c.length=k/\(∀q,q<k->w.cell? ⟨b,off+(j+i)*k+q,none⟩=c[q]?)/\m x<=Rows.uptoBulk els[i].1)->∃(l:List α) (xs:List Value),l.length=els.length/\aJ R l xs/\xs.length=els.length*k/\(∀q,q<els.length*k->w.cell? ⟨b,off+j*k+q,none⟩=xs[q]?)/\(l.map m).sum<=Rows.uptoBulkAll (els.map (·.1))
 |[],j,_=>⟨[],[],rfl,rfl,by simp,fun q G=>by simp at G,by simp⟩
 |e::els,j,h=>by
  obtain⟨x,c,hr,hc,ax,hm⟩:=h 0 (by simp);obtain⟨l,xs,h1,h2,am,ao,aB⟩:=xX R m k b off els (j+1) (fun i J=>by obtain⟨x,c,Y,ab,aj,ak⟩:=h (i+1) (by simpa using J);refine⟨x,c,Y,ab,fun q G=> ?_,by simpa using ak⟩;rw[<-aj q G,show j+1+i=j+(i+1) by omega])
  refine⟨x::l,c++xs,by simp[h1],⟨c,xs,rfl,hr,h2⟩,by simp only[List.length_append,bF,hc,am,gN];omega,fun q G=> ?_,?_⟩
  ·rcases b7 q k with O|O;·rw[jD (by omega),<-ax q O,dz]
   ·rw[ih (by omega),hc,<-ao (q-k) (by simp only[bF,gN]at G;omega)];congr 2;rw[gN];omega
  ·simp only[cR,GS,Ey];simp only[List.getElem_cons_zero]at hm;omega
theorem Ez{n:Int}(h:(Lit.int ae n).wf=true):aG n:=bounds_i64 h
theorem EA{t:TypeId}(O:ai.underlying t=some (.int .i64)){G:Nat}{cs:List Value}{x:DataW H×List MemPlace}(h:DataW.trod enc ai w 0 sp held G t cs=some x):∃n,cs=[af ae n]/\aG n:=by obtain⟨n,h1,_,J⟩:=DataW.trod_int O h;exact⟨n,h1,Ez J⟩
def xY(n:Int)(c:List Value):Prop:=c=[af ae n]/\aG n
theorem xZ:∀{l:List Int} {xs:List Value},aJ xY l xs->xs=l.map (af ae)/\∀q∈l,aG q
 |[],xs,h=>by simp only[aJ]at h;subst h;simp
 |n::l,xs,⟨a,r,e,h1,h2⟩=>by
  obtain⟨J,O⟩:=xZ h2;refine⟨by rw[e,h1.1,J];rfl,fun q G=> ?_⟩;rcases b8.1 G with rfl|G;·exact h1.2
  ·exact O q G
theorem x0{W O:World}(G:Below W.heap.size W O){ak:Nat->Bool}(Y:laidOutB ai=true):∀{ts:List TypeId} {vs:List Value} {ds:List (DataW H)} {ps:List MemPlace},(∀t∈ts,ai.readableRec t=true/\t<ai.types.size)->sI enc ai W 0 (fun _=>true) true ts vs ds ps->(∀p∈ps,p.block<W.heap.size)->(∀p∈ps,ak p.block=true)->sI enc ai O 0 ak true ts vs ds ps
 |[],vs,ds,ps,_,h,_,_=>by obtain⟨rfl,rfl,rfl⟩:=trodAll_nil h;rfl
 |t::ts,vs,ds,ps,J,h,ab,hs=>by
  obtain⟨v,ax,d,ao,a,b,rfl,rfl,rfl,h1,h2⟩:=trodAll_cons h;refine⟨a,b,WideElems.Trod_stays Y (J t (by simp)).1 (J t (by simp)).2 h1 (fun p hp=> ?_) (fun p hp=>hs p (by simp[hp])),x0 G Y (fun u am=>J u (by simp[am])) h2 (fun p hp=>ab p (by simp[hp])) (fun p hp=>hs p (by simp[hp])),rfl⟩;have aj:=ab p (by simp[hp]);cases p with
  |cell bk off=>exact G.cell (p:=⟨bk,off,none⟩) aj
  |map bk=>exact G.block bk aj
theorem EB{W J:World}(G:Below W.heap.size W J)(may:MemPlace->Prop):W.keptBut J may:=by
 refine⟨G.os,G.output,fun i O=> ?_⟩;rw[G.block i O];cases W.heap[i]?with
 |none=>rfl
 |some o=>cases o<;>simp
theorem EC{f:Func}{s:ChangeSpec}{W G:World}{args:Array Value}{ds gs:List (DataW H)}{before:List MemPlace}{T:TypeId}(aJ:laidOutB ai=true)(aM:∀t∈f.params.toList,ai.readableRec t=true/\t<ai.types.size)(hv:s.vars=[])(hr:f.resultTypes= #[T])(ab:ai.underlying T=some .bool)(O:DataW.Whole enc ai f.params.toList s.vars false W args.toList ds gs before)(hs:s.fn H (ds++gs)={results:=[.lit (.bool true)],args:=ds})(Y:Below W.heap.size W G):s.post enc ai f false true false false W args (ay true) G:=by
 have J:=O.lt;have ak:=O;obtain⟨p,q,hA,aj,rfl,ao,_⟩:=O;rw[hv]at aj;obtain⟨rfl,rfl⟩:=trodVars_none aj;simp only[jG]at hs ao J ak⊢;have ax:∀(b:Nat) (sp:Nat->Bool) (hd:Bool),sI enc ai G b sp hd f.resultTypes.toList ((ay true).resultList f.resultTypes.size) (s.fn H (ds++[])).results []:=fun b sp hd=>by rw[jG,hs,hr];exact trodAll_cons_mk (shut_bool ab _) trodAll_mk0
 have am:∀sp:Nat->Bool,(∀x∈p,sp x.block=true)->sI enc ai G 0 sp true f.params.toList args.toList (s.fn H (ds++[])).args p:=fun sp aL=>by rw[jG,hs];exact x0 Y aJ aM hA J aL
 have aB:∀sp:Nat->Bool,DataW.TrodVars enc ai G sp s.vars (s.fn H (ds++[])).vars []:=fun sp=>by rw[jG,hs,hv];rfl
 have hold:∀x∈p,(fun b=>decide (b<W.heap.size)) x.block=true:=fun x hx=>by simpa using J x hx
 refine⟨ds,[],p,[],p,[],ak,ax _ _ _,am _ hold,aB _,World.keptBut_mono (fun x hx=>⟨hx,Or.inr (by simpa using hx)⟩) (EB Y (·∈p)),fun _=> ?_⟩;refine⟨ok_one hr rfl (okWide_bool_mk ab _),_,_,([]++p)++[],⟨[]++p,[],trodAll_append (am _ (fun _ _=>rfl)) (ax _ _ _),aB _,rfl,?_,fun h=>by cases h⟩,?_⟩
 ·intro b off hx;have aG:MemPlace.cell b off∈p:=by simpa using hx
  rw[Y.frozen (p:=⟨b,off,none⟩) (J _ aG)];exact ao b off aG
 ·intro x hx _;simpa using hx
end
theorem ED{x y:List aB}{l:List (Int×Int)}(g:Good x y (kp x y) l l.length):∃r,cq l=(0,0)::r:=by
 have hs:=Ls g.nodup;have G:(0,0)∈cq l:=kh.2 (pY g).1;cases hl:cq l with
 |nil=>rw[hl]at G;simp at G
 |cons p r=>
  rw[hl]at hs G;rcases b8.1 G with G|G;·exact⟨r,by rw[G]⟩
  ·have J:=(fJ.1 hs).1 _ G;have hp:p∈l:=kh.1 (by rw[hl];simp);have:=g.inr p hp;unfold fV at J;unfold bZ at this;simp only at J;omega
theorem EE{x y:List aB}(hx:WF x)(hy:WF y){m:kd}(hv:pU x y m)(hp:m.gT=true){O:List (Int×Int)}{c:Int}(hc:dP x y O=some c):m.cost<=c:=by
 obtain⟨h1,_,ab⟩:=hv;obtain⟨_,G⟩:=ab hp;by_cases J:(nd x 0).kind=(nd y 0).kind
 ·rw[if_pos J]at G;obtain⟨k1,k2,k3⟩:=G;cases hb:fB x y m.proof.length with
  |none=>rw[hb]at k1;cases k1
  |some l=>
   rw[hb]at k1;simp only[Option.map_some,aC]at k1;have g:=(rq hx hy hb).1;obtain⟨r,hr⟩:=ED g;have aj:=Eg hx hy m.proof l g (fun q=>by rw[<-k1];exact kh) k2 O c hc
   have:bG m.proof (0,0)=m.cost:=by
    rw[<-k3];cases hpf:m.proof with
    |nil=>rw[hpf,hr]at k1;simp at k1
    |cons e es=>rw[hpf,hr]at k1;simp only[cR,ii]at k1;rw[ra,if_pos k1.1];rfl
   omega
 ·rw[if_neg J]at G;rw[G.2]at h1;cases O with
  |nil=>rw[h1]at hc;have:=aU hc;omega
  |cons p ps=>
   exfalso;unfold dP at hc;rw[gB]at hc;split at hc;·rename_i ok;have Y:p=(0,0):=ok.2.2.2.2.2.1.2 rfl;subst Y;exact J ok.2.2.2.2.1
   ·cases hc
end Go.Proofs.YtdplggpbgommnaaGreatDoor
