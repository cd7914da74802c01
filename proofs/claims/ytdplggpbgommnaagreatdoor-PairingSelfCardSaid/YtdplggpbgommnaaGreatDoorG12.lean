/- matching.Match. -/
import Derived.Test.YtdplggpbgommnaaGreatDoorWl
import Derived.Test.YtdplggpbgommnaaGreatDoorG11
open Go renaming bodyPost_ret→aF,results→aH
open Go.IntKind renaming i64→ae
open Go.Lib renaming hid→aa
open Go.Obj renaming cells→au
open Go.Proofs.Tryz renaming results64→sH
open Go.Value renaming agg→aq,bool→ay,int→af,slice→ag,string→ah
open Go.World renaming cell?_alloc_at→cJ,cell?_alloc_past→eg
open List renaming mergeSort_perm→po,range→aw
open Nat renaming lt_of_lt_of_le→bK
open Option.some renaming inj→aU
set_option maxRecDepth 100000
set_option maxHeartbeats 4000000
namespace Go.Proofs.YtdplggpbgommnaaGreatDoor
open Go.RowKit
def bE(x y:List aB)(budget:Int):kd:=
 if(nd x 0).kind=(nd y 0).kind then
  if ct x=true∧ct y=true then
   match fB x y budget with
   |some l=>iO x y (cq l)
   |none=>dr x y
  else dr x y
 else{aR:=[],cost:=x.length+y.length,gT:=true,a7:=x.length+y.length,proof:=[]}
theorem rq{x y:List aB}(A:WF x)(hy:WF y){budget:Int}{l:List (Int×Int)}(h:fB x y budget=some l):Good x y (kp x y) l l.length∧(l.length:Int)≤budget:=by
 unfold fB at h;split at h;·cases h
 ·rename_i G;rcases q6 (q7 A hy) budget.toNat (budget.toNat+1) [(0,0)] 0 (oS A.pos hy.pos) (by simp;omega) (by omega)with⟨r,h1,h2,E⟩|⟨h1,_⟩;·rw[h]at h1;obtain rfl:=aU h1;exact⟨h2,by omega⟩
  ·rw[h]at h1;cases h1
theorem kh{l:List (Int×Int)}{q:Int×Int}:q∈cq l↔q∈l:=(po l _).mem_iff
theorem xQ(l:List (Int×Int)):(cq l).length=l.length:=List.length_mergeSort _
theorem xR{l:List (Int×Int)}(h:l.Nodup):(cq l).Nodup:=(po l _).nodup_iff.2 h
theorem pY{x y:List aB}{k:Int×Int→List (Int×Int)}{l:List (Int×Int)}(g:Good x y k l l.length):(0,0)∈l∧∀p∈l,∀q∈k p,q∈l:=by refine⟨by rw[g.eq];simp,fun p A q E=> ?_⟩;rw[g.eq,List.take_length];exact List.mem_cons_of_mem _ (List.mem_flatMap.2 ⟨p,A,E⟩)
theorem pZ{B:Nat}{G h:Hp}{w0 w:World}(s:St B G w0 h w){g:Nat}(A:B≤g)(E:h g=none)(a b c d e:Value):St B G w0 h (((((w.setCell ⟨g,0,none⟩ a).setCell ⟨g,1,none⟩ b).setCell ⟨g,2,none⟩ c).setCell ⟨g,3,none⟩ d).setCell ⟨g,4,none⟩ e):=
 ((((s.setCell (p:=⟨g,0,none⟩) A E a).setCell (p:=⟨g,1,none⟩) A E b).setCell (p:=⟨g,2,none⟩) A E c).setCell (p:=⟨g,3,none⟩) A E d).setCell (p:=⟨g,4,none⟩) A E e
theorem ua(h:Hp)(w:World)(cC:ao h w)(cN cQ:Value)(a b:Tree)(budget:Int)(cu:aG budget)(cc:aP h cN a)(cd:aP h cQ b)(ch:a.size≤262144)(sb:b.size≤262144):Calls Tryz.prog 64 #[cN,cQ,af ae budget] w fun e w'=>∃v,e= .returned v∧∃h',St w.heap.size h w h' w'∧tg h' v (bE (aO a) (aO b) budget):=by
 have cY:=aa cc;have cZ:=aa cd;have cj:=aa cC;have a3:=aa (q4 a);have a4:=aa (q4 b);have dj:=a3.out.pos;have dk:=a4.out.pos;have bG:(aO a).length≤262144:=by rw[nJ];exact ch
 have bH:(aO b).length≤262144:=by rw[nJ];exact sb
 have c8:=aa ch;have c9:=aa sb;have cX:=aa cu;obtain⟨ak,am,aj,ck,dW,rfl,a8,dB,dw,-,-,-⟩:=cc.open;obtain⟨bl,aB,bk,ax,dX,rfl,dv,dC,dA,-,-,-⟩:=cd.open;have de:(nd (aO a) 0).kind=(nd (aO a) 0).kind:=rfl;clear cC cc cd ch sb cu de;go_enter Tryz.func64,Tryz.ntmps64;go_upto_region 1 with fail;have a0:(((w.alloc (au #[af ae a.kind,ah a.text,ag ak a.leads.length am,ag aj a.kids.length ck] 26)).alloc (au #[af ae b.kind,ah b.text,ag bl b.leads.length aB,ag bk b.kids.length ax] 26)).alloc (au #[ag none 0 0,af ae 0,ay false,af ae 0,ag none 0 0] 76)).cell? ⟨w.heap.size,0,none⟩=some (af ae a.kind):=by rw[eg _ _ _ (by simp;omega),eg _ _ _ (by simp),cJ _ _ _ _ rfl];rfl
 have bY:(((w.alloc (au #[af ae a.kind,ah a.text,ag ak a.leads.length am,ag aj a.kids.length ck] 26)).alloc (au #[af ae b.kind,ah b.text,ag bl b.leads.length aB,ag bk b.kids.length ax] 26)).alloc (au #[ag none 0 0,af ae 0,ay false,af ae 0,ag none 0 0] 76)).cell? ⟨w.heap.size,1,none⟩=some (ah a.text):=by rw[eg _ _ _ (by simp;omega),eg _ _ _ (by simp),cJ _ _ _ _ rfl];rfl
 have bZ:(((w.alloc (au #[af ae a.kind,ah a.text,ag ak a.leads.length am,ag aj a.kids.length ck] 26)).alloc (au #[af ae b.kind,ah b.text,ag bl b.leads.length aB,ag bk b.kids.length ax] 26)).alloc (au #[ag none 0 0,af ae 0,ay false,af ae 0,ag none 0 0] 76)).cell? ⟨w.heap.size,2,none⟩=some (ag ak a.leads.length am):=by rw[eg _ _ _ (by simp;omega),eg _ _ _ (by simp),cJ _ _ _ _ rfl];rfl
 have b0:(((w.alloc (au #[af ae a.kind,ah a.text,ag ak a.leads.length am,ag aj a.kids.length ck] 26)).alloc (au #[af ae b.kind,ah b.text,ag bl b.leads.length aB,ag bk b.kids.length ax] 26)).alloc (au #[ag none 0 0,af ae 0,ay false,af ae 0,ag none 0 0] 76)).cell? ⟨w.heap.size,3,none⟩=some (ag aj a.kids.length ck):=by rw[eg _ _ _ (by simp;omega),eg _ _ _ (by simp),cJ _ _ _ _ rfl];rfl
 have b9:(((w.alloc (au #[af ae a.kind,ah a.text,ag ak a.leads.length am,ag aj a.kids.length ck] 26)).alloc (au #[af ae b.kind,ah b.text,ag bl b.leads.length aB,ag bk b.kids.length ax] 26)).alloc (au #[ag none 0 0,af ae 0,ay false,af ae 0,ag none 0 0] 76)).cell? ⟨w.heap.size+1,0,none⟩=some (af ae b.kind):=by rw[eg _ _ _ (by simp),cJ _ _ _ _ (by simp)];rfl
 have b1:(((w.alloc (au #[af ae a.kind,ah a.text,ag ak a.leads.length am,ag aj a.kids.length ck] 26)).alloc (au #[af ae b.kind,ah b.text,ag bl b.leads.length aB,ag bk b.kids.length ax] 26)).alloc (au #[ag none 0 0,af ae 0,ay false,af ae 0,ag none 0 0] 76)).cell? ⟨w.heap.size+1,1,none⟩=some (ah b.text):=by rw[eg _ _ _ (by simp),cJ _ _ _ _ (by simp)];rfl
 have b2:(((w.alloc (au #[af ae a.kind,ah a.text,ag ak a.leads.length am,ag aj a.kids.length ck] 26)).alloc (au #[af ae b.kind,ah b.text,ag bl b.leads.length aB,ag bk b.kids.length ax] 26)).alloc (au #[ag none 0 0,af ae 0,ay false,af ae 0,ag none 0 0] 76)).cell? ⟨w.heap.size+1,2,none⟩=some (ag bl b.leads.length aB):=by rw[eg _ _ _ (by simp),cJ _ _ _ _ (by simp)];rfl
 have b3:(((w.alloc (au #[af ae a.kind,ah a.text,ag ak a.leads.length am,ag aj a.kids.length ck] 26)).alloc (au #[af ae b.kind,ah b.text,ag bl b.leads.length aB,ag bk b.kids.length ax] 26)).alloc (au #[ag none 0 0,af ae 0,ay false,af ae 0,ag none 0 0] 76)).cell? ⟨w.heap.size+1,3,none⟩=some (ag bk b.kids.length ax):=by rw[eg _ _ _ (by simp),cJ _ _ _ _ (by simp)];rfl
 have cl:Hid (∀i,(((w.alloc (au #[af ae a.kind,ah a.text,ag ak a.leads.length am,ag aj a.kids.length ck] 26)).alloc (au #[af ae b.kind,ah b.text,ag bl b.leads.length aB,ag bk b.kids.length ax] 26)).alloc (au #[ag none 0 0,af ae 0,ay false,af ae 0,ag none 0 0] 76)).cell? ⟨w.heap.size+2,i,none⟩=(#[ag none 0 0,af ae 0,ay false,af ae 0,ag none 0 0]:Array Value)[i]?∧(((w.alloc (au #[af ae a.kind,ah a.text,ag ak a.leads.length am,ag aj a.kids.length ck] 26)).alloc (au #[af ae b.kind,ah b.text,ag bl b.leads.length aB,ag bk b.kids.length ax] 26)).alloc (au #[ag none 0 0,af ae 0,ay false,af ae 0,ag none 0 0] 76)).frozen? ⟨w.heap.size+2,i,none⟩=false):=fun i=>⟨by rw[cJ _ _ _ _ (by simp)],by rw[World.frozen?_alloc_at _ _ _ _ (by simp)]⟩
 have bX:Hid (St w.heap.size h w h (((w.alloc (au #[af ae a.kind,ah a.text,ag ak a.leads.length am,ag aj a.kids.length ck] 26)).alloc (au #[af ae b.kind,ah b.text,ag bl b.leads.length aB,ag bk b.kids.length ax] 26)).alloc (au #[ag none 0 0,af ae 0,ay false,af ae 0,ag none 0 0] 76))):=(((St.refl cj.out).alloc _).alloc _).alloc _;have bg:(((w.alloc (au #[af ae a.kind,ah a.text,ag ak a.leads.length am,ag aj a.kids.length ck] 26)).alloc (au #[af ae b.kind,ah b.text,ag bl b.leads.length aB,ag bk b.kids.length ax] 26)).alloc (au #[ag none 0 0,af ae 0,ay false,af ae 0,ag none 0 0] 76)).heap.size=w.heap.size+3:=by simp
 generalize db:((w.alloc (au #[af ae a.kind,ah a.text,ag ak a.leads.length am,ag aj a.kids.length ck] 26)).alloc (au #[af ae b.kind,ah b.text,ag bl b.leads.length aB,ag bk b.kids.length ax] 26)).alloc (au #[ag none 0 0,af ae 0,ay false,af ae 0,ag none 0 0] 76)=w0 at*;clear db;have aL:w.heap.size<w0.heap.size:=by omega
 have l2:w.heap.size+1<w0.heap.size:=by omega
 have cg:w.heap.size+2<w0.heap.size:=by omega
 clear bg
 go_region_held3(fun w'=>w'.cell? ⟨w.heap.size,0,none⟩=some (af ae a.kind)∧w'.cell? ⟨w.heap.size,1,none⟩=some (ah a.text)∧w'.cell? ⟨w.heap.size,2,none⟩=some (ag ak a.leads.length am)∧w'.cell? ⟨w.heap.size,3,none⟩=some (ag aj a.kids.length ck)∧w'.cell? ⟨w.heap.size+1,0,none⟩=some (af ae b.kind)∧w'.cell? ⟨w.heap.size+1,1,none⟩=some (ah b.text)∧w'.cell? ⟨w.heap.size+1,2,none⟩=some (ag bl b.leads.length aB)∧w'.cell? ⟨w.heap.size+1,3,none⟩=some (ag bk b.kids.length ax))
  (first|go_keep|exact⟨(O.below.cell (p:=⟨w.heap.size,0,none⟩) aL).trans a0,(O.below.cell (p:=⟨w.heap.size,1,none⟩) aL).trans bY,(O.below.cell (p:=⟨w.heap.size,2,none⟩) aL).trans bZ,(O.below.cell (p:=⟨w.heap.size,3,none⟩) aL).trans b0,(O.below.cell (p:=⟨w.heap.size+1,0,none⟩) l2).trans b9,(O.below.cell (p:=⟨w.heap.size+1,1,none⟩) l2).trans b1,(O.below.cell (p:=⟨w.heap.size+1,2,none⟩) l2).trans b2,(O.below.cell (p:=⟨w.heap.size+1,3,none⟩) l2).trans b3⟩|exact⟨(ac.below.cell (p:=⟨w.heap.size,0,none⟩) (bK aL aX)).trans ((O.below.cell (p:=⟨w.heap.size,0,none⟩) aL).trans a0),(ac.below.cell (p:=⟨w.heap.size,1,none⟩) (bK aL aX)).trans ((O.below.cell (p:=⟨w.heap.size,1,none⟩) aL).trans bY),(ac.below.cell (p:=⟨w.heap.size,2,none⟩) (bK aL aX)).trans ((O.below.cell (p:=⟨w.heap.size,2,none⟩) aL).trans bZ),(ac.below.cell (p:=⟨w.heap.size,3,none⟩) (bK aL aX)).trans ((O.below.cell (p:=⟨w.heap.size,3,none⟩) aL).trans b0),(ac.below.cell (p:=⟨w.heap.size+1,0,none⟩) (bK l2 aX)).trans ((O.below.cell (p:=⟨w.heap.size+1,0,none⟩) l2).trans b9),(ac.below.cell (p:=⟨w.heap.size+1,1,none⟩) (bK l2 aX)).trans ((O.below.cell (p:=⟨w.heap.size+1,1,none⟩) l2).trans b1),(ac.below.cell (p:=⟨w.heap.size+1,2,none⟩) (bK l2 aX)).trans ((O.below.cell (p:=⟨w.heap.size+1,2,none⟩) l2).trans b2),(ac.below.cell (p:=⟨w.heap.size+1,3,none⟩) (bK l2 aX)).trans ((O.below.cell (p:=⟨w.heap.size+1,3,none⟩) l2).trans b3)⟩)
  (first
   |(go_at_call 103;(with_reducible refine(xp h _ (by exact bX.out.I.drew) _ a cY.out (by have:=c8.out;omega)).mono ?_);rintro e w1 ⟨dR,h1,rfl,O,NX⟩;have aX:w0.heap.size≤w1.heap.size:=O.below.size)
   |(go_at_call 103;(with_reducible refine(xp h1 _ O.I _ b (cZ.out.mono O.le) (by have:=c9.out;omega)).mono ?_);rintro e w2 ⟨dT,h2,rfl,ac,cm⟩;have dY:w1.heap.size≤w2.heap.size:=ac.below.size))
 have aQ:=aa ((bX.out.drew.call O).call ac);have aZ:=aa (NX.mono ac.le);have a1:=aa cm;have aM:Hid (w.heap.size+2<w2.heap.size):=by unfold Hid;omega
 have bz:Hid (h2 (w.heap.size+2)=none):=by unfold Hid;rw[ac.aI _ (by omega),O.aI _ cg];exact bI cj.out _ (by omega)
 have E:Hid (∀W,Below w2.heap.size w2 W→∀i,W.cell? ⟨w.heap.size+2,i,none⟩=(#[ag none 0 0,af ae 0,ay false,af ae 0,ag none 0 0]:Array Value)[i]?∧W.frozen? ⟨w.heap.size+2,i,none⟩=false):=fun W co i=>by rw[co.cell aM.out,co.frozen aM.out,ac.below.cell (by show w.heap.size+2<_;omega),ac.below.frozen (by show w.heap.size+2<_;omega),O.below.cell cg,O.below.frozen cg];exact cl.out i
 obtain⟨bx,dN,dn,rfl,dD,cG⟩:=aZ.out.gA dj;obtain⟨dm,dO,dp,rfl,dF,cM⟩:=a1.out.gA dk;obtain⟨dq,cF⟩:=cG w2 aQ.out.I;obtain⟨dt,cK⟩:=cM w2 aQ.out.I;obtain⟨-,-,cU,-⟩:=cF 0 (by omega) (by omega);obtain⟨-,-,cV,-⟩:=cK 0 (by omega) (by omega);simp only[Int.toNat_zero,Nat.zero_mul,Nat.add_zero]at cU cV;clear O ac NX cm cG cM cF cK a0 bY bZ b0 b9 b1 b2 b3 cl bX;generalize cA:aO a=x at*;generalize cB:aO b=y at*;have bp:=aa cA;have bq:=aa cB;clear cA cB;have q1:(0:Int)<(x.length:Int):=by omega
 have dP:(0:Int)<(y.length:Int):=by omega
 by_cases a8:(nd x 0).kind=(nd y 0).kind
 case neg=>
  have g1:=q0 a8;have G:Hid (bE (aO a) (aO b) budget={aR:=[],cost:=x.length+y.length,gT:=true,a7:=x.length+y.length,proof:=[]}):=by unfold Hid;rw[bp.out,bq.out];unfold bE;rw[if_neg a8]
  clear a8;go_wp2_with fail;go_quiet(fail);have A:Hid (Below w2.heap.size w2 (w2.drewN nq)):=(Below.refl _ _).drewN _;have aN:=aa (aQ.out.drewN nq);have aT:(w2.drewN nq).cell? ⟨w.heap.size+2,0,none⟩=some (ag none 0 0):=(E.out _ A.out 0).1;have k1:(w2.drewN nq).cell? ⟨w.heap.size+2,1,none⟩=some (af ae 0):=(E.out _ A.out 1).1;have k2:(w2.drewN nq).cell? ⟨w.heap.size+2,2,none⟩=some (ay false):=(E.out _ A.out 2).1;have k3:(w2.drewN nq).cell? ⟨w.heap.size+2,3,none⟩=some (af ae 0):=(E.out _ A.out 3).1;have k4:(w2.drewN nq).cell? ⟨w.heap.size+2,4,none⟩=some (ag none 0 0):=(E.out _ A.out 4).1;have bg:=(E.out _ A.out 0).2;have bN:=(E.out _ A.out 1).2;have bO:=(E.out _ A.out 2).2;have bR:=(E.out _ A.out 3).2;have bS:=(E.out _ A.out 4).2;have dG:=aM.out;go_wp2_with fail;refine aF (v:=aq #[ag none 0 0,af ae ((x.length:Int)+y.length),ay true,af ae ((x.length:Int)+y.length),ag none 0 0]) (by simp[aH,sH,go_sem,aT,k1,k2,k3,k4]) rfl ?_;refine⟨_,rfl,_,pZ aN.out (by omega) bz.out _ _ _ _ _,none,0,none,0,by rw[G.out];rfl,?_,?_,?_,?_⟩;·rw[G.out];unfold aG;simp only;omega
  ·rw[G.out];unfold aG;simp only;omega
  ·rw[G.out];exact⟨Sl.nil _ _ _ _,by simp⟩
  ·rw[G.out];exact⟨[],Sl.nil _ _ _ _,by simp[aJ]⟩
 have g1:=ti a8;have bv:=aa a8;clear a8;generalize cD:ct x=nx;have bA:=aa cD;clear cD;generalize cE:ct y=dh;have bB:=aa cE;clear cE;go_wp2_with fail;go_quiet(fail);go_wp2_with fail;refine(wY h2 _ (aQ.out.I.drewN _) _ x aZ.out).mono ?_;rintro e w3 ⟨rfl,cv⟩;have bd:=aa ((St.refl aQ.out.I).drewN nq|>.same cv);rw[show(decide (x.length≤262144)&&x.all fun n=>decide (n.kids.length≤400))=ct x from rfl,bA.out];clear cv cU cV;cases nx
 ·have G:Hid (bE (aO a) (aO b) budget=dr x y):=by unfold Hid;rw[bp.out,bq.out];unfold bE;rw[if_pos bv.out,if_neg (by rw[bA.out];simp)]
  go_upto_region 9 with fail;go_wp2_with fail;refine(tZ h2 _ bd.out.I _ _ x y (aZ.out) (a1.out) a3.out a4.out bG bH).mono ?_;rintro e M ⟨ci,rfl,a5,Y,ap,cp,ar,cr,rfl,a9,ba,ad,ab⟩;have ad:=aa ad;have ab:=aa ab;have A:=aa ((bd.out.call Y).below);have aN:=aa (aQ.out.call (bd.out.call Y));have aY:Hid (a5 (w.heap.size+2)=none):=by unfold Hid;rw[(bd.out.call Y).aI _ aM.out];exact bz.out
  clear Y;have cf:w.heap.size+2<M.heap.size:=by have:=A.out.size;have:=aM.out;omega
  have aT:M.cell? ⟨w.heap.size+2,0,none⟩=some (ag none 0 0):=(E.out _ A.out 0).1;have k1:M.cell? ⟨w.heap.size+2,1,none⟩=some (af ae 0):=(E.out _ A.out 1).1;have k2:M.cell? ⟨w.heap.size+2,2,none⟩=some (ay false):=(E.out _ A.out 2).1;have k3:M.cell? ⟨w.heap.size+2,3,none⟩=some (af ae 0):=(E.out _ A.out 3).1;have k4:M.cell? ⟨w.heap.size+2,4,none⟩=some (ag none 0 0):=(E.out _ A.out 4).1;have bg:=(E.out _ A.out 0).2;have bN:=(E.out _ A.out 1).2;have bO:=(E.out _ A.out 2).2;have bR:=(E.out _ A.out 3).2;have bS:=(E.out _ A.out 4).2;go_wp2_with fail;refine aF (v:=aq #[ag ap (dr x y).aR.length cp,af ae (dr x y).cost,ay (dr x y).gT,af ae (dr x y).a7,ag ar (dr x y).proof.length cr]) (by simp[aH,sH,go_sem,aT,k1,k2,k3,k4]) rfl ?_;exact⟨_,rfl,_,pZ aN.out (by omega) aY.out _ _ _ _ _,ap,cp,ar,cr,by rw[G.out],by rw[G.out];exact a9,by rw[G.out];exact ba,by rw[G.out];exact ad.out,by rw[G.out];exact ab.out⟩
 go_wp2_with fail;refine(wY h2 _ bd.out.I _ y a1.out).mono ?_;rintro e dU ⟨rfl,cw⟩;have a2:=aa (bd.out.same cw);rw[show(decide (y.length≤262144)&&y.all fun n=>decide (n.kids.length≤400))=ct y from rfl,bB.out];clear cw;cases dh
 ·have G:Hid (bE (aO a) (aO b) budget=dr x y):=by unfold Hid;rw[bp.out,bq.out];unfold bE;rw[if_pos bv.out,if_neg (by rw[bB.out];simp)]
  go_upto_region 9 with fail;go_wp2_with fail;refine(tZ h2 _ a2.out.I _ _ x y (aZ.out) (a1.out) a3.out a4.out bG bH).mono ?_;rintro e M ⟨ci,rfl,a5,Y,ap,cp,ar,cr,rfl,a9,ba,ad,ab⟩;have ad:=aa ad;have ab:=aa ab;have A:=aa ((a2.out.call Y).below);have aN:=aa (aQ.out.call (a2.out.call Y));have aY:Hid (a5 (w.heap.size+2)=none):=by unfold Hid;rw[(a2.out.call Y).aI _ aM.out];exact bz.out
  clear Y;have cf:w.heap.size+2<M.heap.size:=by have:=A.out.size;have:=aM.out;omega
  have aT:M.cell? ⟨w.heap.size+2,0,none⟩=some (ag none 0 0):=(E.out _ A.out 0).1;have k1:M.cell? ⟨w.heap.size+2,1,none⟩=some (af ae 0):=(E.out _ A.out 1).1;have k2:M.cell? ⟨w.heap.size+2,2,none⟩=some (ay false):=(E.out _ A.out 2).1;have k3:M.cell? ⟨w.heap.size+2,3,none⟩=some (af ae 0):=(E.out _ A.out 3).1;have k4:M.cell? ⟨w.heap.size+2,4,none⟩=some (ag none 0 0):=(E.out _ A.out 4).1;have bg:=(E.out _ A.out 0).2;have bN:=(E.out _ A.out 1).2;have bO:=(E.out _ A.out 2).2;have bR:=(E.out _ A.out 3).2;have bS:=(E.out _ A.out 4).2;go_wp2_with fail;refine aF (v:=aq #[ag ap (dr x y).aR.length cp,af ae (dr x y).cost,ay (dr x y).gT,af ae (dr x y).a7,ag ar (dr x y).proof.length cr]) (by simp[aH,sH,go_sem,aT,k1,k2,k3,k4]) rfl ?_;exact⟨_,rfl,_,pZ aN.out (by omega) aY.out _ _ _ _ _,ap,cp,ar,cr,by rw[G.out],by rw[G.out];exact a9,by rw[G.out];exact ba,by rw[G.out];exact ad.out,by rw[G.out];exact ab.out⟩
 generalize cz:fB x y budget=di;have bJ:=aa cz;clear cz;go_wp2_with fail;refine(DP h2 _ a2.out.I _ _ x y budget cX.out aZ.out a1.out a3.out a4.out bv.out bG bH).mono ?_;rintro e cS ⟨bL,aV,bC⟩;rw[bJ.out]at bC;cases di with
 |none=>
  simp only at bC;subst bC;have G:Hid (bE (aO a) (aO b) budget=dr x y):=by unfold Hid;rw[bp.out,bq.out];unfold bE;rw[if_pos bv.out,if_pos ⟨bA.out,bB.out⟩,bJ.out]
  have aS:Hid (St w2.heap.size h2 w2 bL cS):=a2.out.call aV;have bT:=aa (aZ.out.mono aV.le);have bV:=aa (a1.out.mono aV.le);clear aV;go_upto_region 9 with fail;go_wp2_with fail;refine(tZ bL _ aS.out.I _ _ x y bT.out bV.out a3.out a4.out bG bH).mono ?_;rintro e M ⟨ci,rfl,a5,Y,ap,cp,ar,cr,rfl,a9,ba,ad,ab⟩;have ad:=aa ad;have ab:=aa ab;have A:=aa ((aS.out.call Y).below);have aN:=aa (aQ.out.call (aS.out.call Y));have aY:Hid (a5 (w.heap.size+2)=none):=by unfold Hid;rw[(aS.out.call Y).aI _ aM.out];exact bz.out
  clear Y;have cf:w.heap.size+2<M.heap.size:=by have:=A.out.size;have:=aM.out;omega
  have aT:M.cell? ⟨w.heap.size+2,0,none⟩=some (ag none 0 0):=(E.out _ A.out 0).1;have k1:M.cell? ⟨w.heap.size+2,1,none⟩=some (af ae 0):=(E.out _ A.out 1).1;have k2:M.cell? ⟨w.heap.size+2,2,none⟩=some (ay false):=(E.out _ A.out 2).1;have k3:M.cell? ⟨w.heap.size+2,3,none⟩=some (af ae 0):=(E.out _ A.out 3).1;have k4:M.cell? ⟨w.heap.size+2,4,none⟩=some (ag none 0 0):=(E.out _ A.out 4).1;have bg:=(E.out _ A.out 0).2;have bN:=(E.out _ A.out 1).2;have bO:=(E.out _ A.out 2).2;have bR:=(E.out _ A.out 3).2;have bS:=(E.out _ A.out 4).2;go_wp2_with fail;refine aF (v:=aq #[ag ap (dr x y).aR.length cp,af ae (dr x y).cost,ay (dr x y).gT,af ae (dr x y).a7,ag ar (dr x y).proof.length cr]) (by simp[aH,sH,go_sem,aT,k1,k2,k3,k4]) rfl ?_;exact⟨_,rfl,_,pZ aN.out (by omega) aY.out _ _ _ _ _,ap,cp,ar,cr,by rw[G.out],by rw[G.out];exact a9,by rw[G.out];exact ba,by rw[G.out];exact ad.out,by rw[G.out];exact ab.out⟩
 |some l=>
  simp only at bC;obtain⟨dQ,rfl,cn⟩:=bC;have G:Hid (bE (aO a) (aO b) budget=iO x y (cq l)):=by unfold Hid;rw[bp.out,bq.out];unfold bE;rw[if_pos bv.out,if_pos ⟨bA.out,bB.out⟩,bJ.out]
  have aS:Hid (St w2.heap.size h2 w2 bL cS):=a2.out.call aV;have bT:=aa (aZ.out.mono aV.le);have bV:=aa (a1.out.mono aV.le);have c6:=aa cn;have bm:=aa (rq a3.out a4.out bJ.out).1;have du:=bm.out.len;have dE:x.length*y.length≤262144*262144:=Nat.mul_le_mul bG bH;clear aV cn;go_wp2_with fail;refine(Ep bL _ aS.out.I _ _ _ x y (cq l) bT.out bV.out a3.out a4.out bA.out bB.out c6.out (xR bm.out.nodup) (fun p ce=>bm.out.inr p (kh.1 ce)) (kh.2 (pY bm.out).1) (fun p ce q dg=>kh.2 ((pY bm.out).2 p (kh.1 ce) q dg)) (by rw[xQ];omega)).mono ?_;rintro e M ⟨ci,rfl,a5,Y,ap,cp,ar,cr,rfl,a9,ba,ad,ab⟩;have ad:=aa ad;have ab:=aa ab;have A:=aa ((aS.out.call Y).below);have aN:=aa (aQ.out.call (aS.out.call Y));have aY:Hid (a5 (w.heap.size+2)=none):=by unfold Hid;rw[(aS.out.call Y).aI _ aM.out];exact bz.out
  clear Y;have cf:w.heap.size+2<M.heap.size:=by have:=A.out.size;have:=aM.out;omega
  have aT:M.cell? ⟨w.heap.size+2,0,none⟩=some (ag none 0 0):=(E.out _ A.out 0).1;have k1:M.cell? ⟨w.heap.size+2,1,none⟩=some (af ae 0):=(E.out _ A.out 1).1;have k2:M.cell? ⟨w.heap.size+2,2,none⟩=some (ay false):=(E.out _ A.out 2).1;have k3:M.cell? ⟨w.heap.size+2,3,none⟩=some (af ae 0):=(E.out _ A.out 3).1;have k4:M.cell? ⟨w.heap.size+2,4,none⟩=some (ag none 0 0):=(E.out _ A.out 4).1;have bg:=(E.out _ A.out 0).2;have bN:=(E.out _ A.out 1).2;have bO:=(E.out _ A.out 2).2;have bR:=(E.out _ A.out 3).2;have bS:=(E.out _ A.out 4).2;go_wp2_with fail;refine aF (v:=aq #[ag ap (iO x y (cq l)).aR.length cp,af ae (iO x y (cq l)).cost,ay (iO x y (cq l)).gT,af ae (iO x y (cq l)).a7,ag ar (iO x y (cq l)).proof.length cr]) (by simp[aH,sH,go_sem,aT,k1,k2,k3,k4]) rfl ?_;exact⟨_,rfl,_,pZ aN.out (by omega) aY.out _ _ _ _ _,ap,cp,ar,cr,by rw[G.out],by rw[G.out];exact a9,by rw[G.out];exact ba,by rw[G.out];exact ad.out,by rw[G.out];exact ab.out⟩
structure cF where
 J:Nat
 number:Nat
 t:Tree
def dt(m:Nat):Nat→List Tree→List cF
 |_,[]=>[]
 |n,d::ds=>⟨m,n,d⟩::dt m (n+d.size) ds
def aj:Nat→List Tree→List cF
 |_,[]=>[]
 |m,t::ts=>dt m 1 t.kids++aj (m+1) ts
abbrev lU:=Int×ByteArray
def bX(ks:List Tree):List (lU×Value):=ks.foldl (fun l d=>aY l (d.kind,d.text) (ay true)) []
section
variable {K:Type} [DecidableEq K]
def fw(mates:List Int)(key:Nat→Option K)(rest:List (K×List Nat))(i:Nat):List (K×List Nat):=
 match key i with
 |some k=>if mates.getD i 0<0 then aY rest k ((aT rest k).getD []++[i])else rest
 |none=>rest
def iK(mates:List Int)(key:Nat→Option K)(n:Nat):List (K×List Nat):=(aw n).foldl (fw mates key) []
def gx(key:Nat→Option K)(s:List (K×List Nat)×List Int×List Int)(j:Nat):List (K×List Nat)×List Int×List Int:=
 match key j with
 |none=>s
 |some k=>if 0≤s.2.2.getD j 0 then s else match(aT s.1 k).getD []with
  |[]=>s
  |i::r=>(aY s.1 k r,s.2.1.set i (j:Int),s.2.2.set j (i:Int))
def dh(aI new:List Int)(ok nk:Nat→Option K):List Int×List Int:=
 ((aw new.length).foldl (gx nk) (iK aI ok aI.length,aI,new)).2
end
def dp(mates:List Int):List Nat:=(aw mates.length).filter fun i=>decide (mates.getD i 0<0)
end Go.Proofs.YtdplggpbgommnaaGreatDoor
