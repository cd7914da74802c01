/- matching.price. -/
import Derived.Test.YtdplggpbgommnaaGreatDoorG04
open Array renaming getD→oC,getElem?_eq_getElem→pn,getElem?_eq_none→iF
open Bool renaming and_eq_true→cy
open Go.Act renaming put→br
open Go.Extern.AbiNoEscape renaming same→KR
open Go.IntKind renaming i64→ae
open Go.Lib renaming cell_of_heap→oE,frozen_of_heap→Kx,hid→aa,ownsRowF_kind→Ky
open Go.Lib.BuilderAtF renaming put→Kz
open Go.Lib.OthersKept renaming refl→Kv
open Go.Oper renaming upon_value→B7
open Go.Proofs.Tryz renaming prog→ai,underlying221→B6,underlying222→Kw,underlying249→Cn,underlying268→Ku
open Go.Region renaming binds→oq,ready→jE,wanted→ox
open Go.Result renaming andThen→nj
open Go.RowKit.Below renaming heap_alloc→fp,heap_setCell→cH,refl→aD
open Go.Value renaming bool→ay,int→af,pointer→az,slice→ag,string→ah,tuple→bD
open Go.World renaming cell?_alloc_at→cJ,cell?_alloc_past→eg,cell?_drew→Cm,cell?_of_block→dc,cell?_setCell_other→pw,cell?_setCell_same→qF,frozen?_of_block→kG
open List renaming all_eq_true→j4,count_pos_iff→Kn,getD_eq_getElem?_getD→bb,getElem?_eq_getElem→aE,getElem?_map→jB,mem_cons→b8,mem_map→b6,mem_of_getElem?→nw,sum_cons→hA,take_add_one→j5,take_length→cP
open Nat renaming le_refl→an,lt_or_ge→b7,strongRecOn→KT
open Option renaming toList_some→BK
open Option.some renaming injEq→aC,inj→aU
set_option maxRecDepth 100000
set_option maxHeartbeats 4000000
namespace Go.Proofs.YtdplggpbgommnaaGreatDoor
open Go.RowKit
def fe(pre:List (Int×Int)):Int×Int:=pre.getLastD (-1,-1)
def kg(x y:List aB)(pre:List (Int×Int))(p:Int×Int):Prop:=
 (fe pre).1<p.1∧(fe pre).2<p.2∧p.1<x.length∧p.2<y.length∧(nd x p.1).kind=(nd y p.2).kind∧(p=(0,0)↔pre=[])∧(p=(0,0)∨((nd x p.1).parent,(nd y p.2).parent)∈pre)
instance(x y:List aB)(pre:List (Int×Int))(p:Int×Int):Decidable (kg x y pre p):=by unfold kg;infer_instance
def gB(x y:List aB):List (Int×Int)→List (Int×Int)→Int→Option Int
 |_,[],c=>some c
 |pre,p::ps,c=>if kg x y pre p then gB x y (pre++[p]) ps (c+(cZ (nd x p.1).text (nd y p.2).text-2))else none
def dP(x y:List aB)(aR:List (Int×Int)):Option Int:=gB x y [] aR (x.length+y.length)
theorem J2{x y:List aB}{A:List (Int×Int)}{i:Nat}(h:i<A.length)(c:Int):gB x y (A.take i) (A.drop i) c=if kg x y (A.take i) A[i]then gB x y (A.take (i+1)) (A.drop (i+1)) (c+(cZ (nd x A[i].1).text (nd y A[i].2).text-2))else none:=by rw[List.drop_eq_getElem_cons h,gB,j5,aE h];rfl
theorem J3(A:List (Int×Int))(i:Nat)(h:i<A.length):fe (A.take (i+1))=A[i]:=by rw[j5,aE h];unfold fe;simp only[BK];rw[List.getLastD_concat]
theorem mM(a b:ByteArray):0≤cZ a b∧cZ a b≤1:=by unfold cZ;split<;>omega
def vz(w:World)(r:Option Int)(e:Ending)(w':World):Prop:=e= .returned (bD #[af ae (r.getD 0),ay r.isSome])∧Below w.heap.size w w'
structure qq(h:Hp)(w:World)(aR:List (Int×Int))(i:Nat)(wr:World):Prop where
 st:St w.heap.size h w h wr
 map:∃l,fy wr w.heap.size l∧∀q,fT l q=if q∈aR.take i then some (ay true)else none
 c0:wr.cell? ⟨w.heap.size+1,0,none⟩=some (af ae (fe (aR.take i)).1)
 c1:wr.cell? ⟨w.heap.size+1,1,none⟩=some (af ae (fe (aR.take i)).2)
 fz:∀i,wr.frozen? ⟨w.heap.size+1,i,none⟩=false
 sz:w.heap.size+2≤wr.heap.size
 lo: -1≤(fe (aR.take i)).1∧-1≤(fe (aR.take i)).2
theorem qq.next{h:Hp}{w:World}{E:List (Int×Int)}{j:Nat}{wr ab A aL:World}{p:Int×Int}(aB:ao h w)(P:qq h w E j wr)(ad:fe (E.take (j+1))=p)(aj:∀q,q∈E.take (j+1)↔q∈E.take j∨q=p)(aY:0≤p.1∧0≤p.2)(aO:St w.heap.size h w h ab)(a1:wr.heap.size<ab.heap.size){l:List ((Int×Int)×Value)}(aP:∀q,fT l q=if q∈E.take j then some (ay true)else none)(aT:ab.heap[w.heap.size+1]? =wr.heap[w.heap.size+1]?)(aS:fy A w.heap.size (iq l p (ay true)))(ac:ab.grownBy A (some w.heap.size))(G:Below ((A.setCell ⟨w.heap.size+1,0,none⟩ (af ae p.1)).setCell ⟨w.heap.size+1,1,none⟩ (af ae p.2)).heap.size ((A.setCell ⟨w.heap.size+1,0,none⟩ (af ae p.1)).setCell ⟨w.heap.size+1,1,none⟩ (af ae p.2)) aL):qq h w E (j+1) aL:=by
 have aZ:=P.sz;have aX:=ac.size;have aV:h w.heap.size=none:=bI aB _ (an _);have aJ:h (w.heap.size+1)=none:=bI aB _ (by omega);have aM:=aO.grown ac (fun k aG=>by simp only[aC]at aG;subst aG;exact⟨an _,aV⟩);have aN:=(aM.setCell (p:=⟨w.heap.size+1,0,none⟩) (by show w.heap.size≤w.heap.size+1;omega) aJ (af ae p.1)).setCell (p:=⟨w.heap.size+1,1,none⟩) (by show w.heap.size≤w.heap.size+1;omega) aJ (af ae p.2);have M:((A.setCell ⟨w.heap.size+1,0,none⟩ (af ae p.1)).setCell ⟨w.heap.size+1,1,none⟩ (af ae p.2)).heap.size=A.heap.size:=by simp[World.setCell]
 have am:A.heap[w.heap.size+1]? =wr.heap[w.heap.size+1]? :=by rw[ac.block _ (by omega) (fun e=>by simp only[aC]at e;omega),aT]
 have ax:∀i,A.cell? ⟨w.heap.size+1,i,none⟩=wr.cell? ⟨w.heap.size+1,i,none⟩:=fun i=>dc (a:=⟨w.heap.size+1,i,none⟩) am;have aQ:∀i,A.frozen? ⟨w.heap.size+1,i,none⟩=false:=fun i=>by rw[kG (a:=⟨w.heap.size+1,i,none⟩) am];exact P.fz i
 refine⟨aN.same G,⟨_,aS.U ?_,fun q=> ?_⟩,?_,?_,fun i=> ?_,?_,?_⟩;·rw[G.block _ (by rw[M];omega),cH _ _ _ _ (by show w.heap.size≠w.heap.size+1;omega),cH _ _ _ _ (by show w.heap.size≠w.heap.size+1;omega)]
 ·rw[qX,aP];by_cases O:q=p;·rw[if_pos O,if_pos ((aj q).2 (.inr O))]
  ·rw[if_neg O];by_cases Y:q∈E.take j;·rw[if_pos Y,if_pos ((aj q).2 (.inl Y))]
   ·rw[if_neg Y,if_neg (fun e=>by rcases(aj q).1 e with e|e;exact Y e;exact O e)]
 ·rw[G.cell (by rw[M];show w.heap.size+1<_;omega),ad];have ak:=ax 0;rw[P.c0]at ak;rw[pw _ _ _ _ (by simp)];exact qF _ _ _ ak
 ·rw[G.cell (by rw[M];show w.heap.size+1<_;omega),ad];have h1:=ax 1;rw[P.c1]at h1;exact qF _ _ _ (by rw[pw _ _ _ _ (by simp)];exact h1)
 ·rw[G.frozen (by rw[M];show w.heap.size+1<_;omega)];simp[aQ]
 ·have:=G.size;rw[M]at this;omega
 ·rw[ad];omega
theorem Eo(h:Hp)(w:World)(am:ao h w)(cz cA cw:Value)(x y:List aB)(A:List (Int×Int))(ci:gy h cz x)(hy:gy h cA y)(dq:0<x.length)(dr:0<y.length)(es:x.length≤1000000000)(ex:y.length≤1000000000)(bL:jp h cw A):Calls ai 151 #[cz,cA,cw] w (vz w (dP x y A)):=by
 obtain⟨bx,eo,d5,rfl,ej,cl⟩:=ci.gA dq;obtain⟨cd,ep,d6,rfl,em,cn⟩:=hy.gA dr;obtain⟨ap,cp,rfl,ec,a1⟩:=bL.open;have cE:=aa (fun w' am=>cl w' am);have cF:=aa (fun w' am=>cn w' am);have cB:=aa (fun w' am=>a1 w' am);have cC:=aa bL.2;have bd:=aa am;clear ci hy cl cn bL a1 am;have eb:∀W:World,(Instr.makeMap 249 none).run ai W= .ok (.map (some W.heap.size)) (W.alloc (.map #[] 0)):=fun W=>rfl;go_enter Tryz.func151,Tryz.ntmps151;go_wp2_with fail
 have bT:qq h w A 0 ((w.alloc (.map #[] 0)).alloc (.cells #[af ae (-1),af ae (-1)] 79)):=by
  refine⟨((St.refl bd.out).alloc _).alloc _,⟨[],(th w).U (fp _ _ _ (by simp)),by simp[fT]⟩,?_,?_,?_,by simp,?_⟩;·rw[cJ _ _ _ _ (by simp)];rfl
  ·rw[cJ _ _ _ _ (by simp)];rfl
  ·intro i;exact World.frozen?_alloc_at _ _ _ _ (by simp)
  ·simp[fe]
 have cG:=aa bT;clear bT;go_loopw[6,7,8,11,12,13,14,15,25,26,27,28,29,30,31,32,33,34,35,36,37,38,39,40,41,42,43,44,45,46,47,48,49,50,51,52,53,54,55,56,57,58,59,60,61,62,63,64,65,66,67,68,69,70,71,72,73,74,75,76,77,78,79,80,81,82,83,84,85,86,87,88,89,90,91,92,93,94,95,96,97,98,99,100,101] (fun _ _ c _ _ _ _ _ i _ _ _ _ _ _ _ _ _ _ _ _ _ _ _ _ _ _ _ _ _ _ _ _ _ _ _ _ _ _ _ _ _ _ _ _ _ _ _ _ _ _ _ _ _ _ _ _ _ _ _ _ _ _ _ _ _ _ _ _ _ _ _ _ _ _ _ _ _ _ _ _ _ _ _ _ wr=>∃(j:Nat) (z:Int),j≤A.length∧i=af ae j∧c=af ae z∧(-2*(j:Int)≤z∧z≤2000000000)∧qq h w A j wr∧Hid (gB x y (A.take j) (A.drop j) z=dP x y A)) (fun _ _ _ _ _ _ _ _ i _ _ _ _ _ _ _ _ _ _ _ _ _ _ _ _ _ _ _ _ _ _ _ _ _ _ _ _ _ _ _ _ _ _ _ _ _ _ _ _ _ _ _ _ _ _ _ _ _ _ _ _ _ _ _ _ _ _ _ _ _ _ _ _ _ _ _ _ _ _ _ _ _ _ _ _ _=>A.length-(intOf i).toNat);case atStart=>exact⟨0,_,Nat.zero_le _,rfl,rfl,by omega,cG.out,rfl⟩
 case round=>
  obtain⟨j,z,hj,rfl,rfl,hz,P,R⟩:=hrel;by_cases a5:j<A.length
  ·obtain⟨b,en,rfl,d8,a1⟩:=cB.out wr P.st.I (by omega);obtain⟨cU,cV⟩:=a1 j a5;obtain⟨dh,di⟩:=cC.out A[j] (by simp);have bp:=aa (J2 (x:=x) (y:=y) a5 z);have bR:=aa (J3 A j a5);have cN:=P.c0;have c1:=P.c1;have ey:w.heap.size+1<wr.heap.size:=by have:=P.sz;omega
   have ez:w.heap.size<wr.heap.size:=by omega
   have M:=aa P;have bS:Hid (∀q,q∈A.take (j+1)↔q∈A.take j∨q=A[j]):=fun q=>by rw[j5,aE a5];simp only[BK,List.mem_append,List.mem_singleton]
   have a4:Hid (A.take j=[]↔j=0):=by
    unfold Hid;constructor;·intro e;have:=congrArg List.length e;rw[List.length_take,List.length_nil]at this;omega
    ·rintro rfl;rfl
   generalize A[j]=p at*;have bN:Hid (¬kg x y (A.take j) p→dP x y A=none):=fun aZ=>by rw[←R.out,bp.out,if_neg aZ]
   generalize cg:fe (A.take j)=L at*;have ax:=aa cg;unfold aG at dh di;clear a1 P cg;have a3:Hid (∀(X:Obj) n,¬kg x y (A.take j) p→vz w (dP x y A) (.returned (bD #[af ae 0,ay false])) ((wr.alloc X).drewN n)):=fun X n aZ=>by rw[bN.out aZ];exact⟨rfl,(M.out.st.below.alloc M.out.st.size _).drewN n⟩
   by_cases h1:p.1≤L.1;·go_wp2_with fail;go_ret2;exact a3.out _ 0 (fun O=>by have:=O.1;rw[ax.out]at this;omega)
   have ce:L.1<p.1:=by omega
   by_cases h2:p.2≤L.2;·go_wp2_with fail;go_ret2;exact a3.out _ 0 (fun O=>by have:=O.2.1;rw[ax.out]at this;omega)
   have cf:L.2<p.2:=by omega
   by_cases c6:(x.length:Int)≤p.1;·go_wp2_with fail;go_ret2;exact a3.out _ 0 (fun O=>by have:=O.2.2.1;omega)
   have bE:p.1<x.length:=by omega
   by_cases c8:(y.length:Int)≤p.2;·go_wp2_with fail;go_ret2;exact a3.out _ 0 (fun O=>by have:=O.2.2.2.1;omega)
   have bG:p.2<y.length:=by omega
   have d7: -1≤L.1∧-1≤L.2:=by have:=M.out.lo;rw[ax.out]at this;exact this
   have bH:0≤p.1:=by omega
   have bI:0≤p.2:=by omega
   obtain⟨d9,cj⟩:=cE.out wr M.out.st.I;obtain⟨ea,cm⟩:=cF.out wr M.out.st.I;obtain⟨cK,cQ,dU,dW,dX,dY,dZ,-,eA,eB,eC⟩:=cj p.1 bH bE;obtain⟨cM,cS,d0,d1,d2,d3,d4,-,eD,eE,eF⟩:=cm p.2 bI bG;clear cj cm h1 h2 c6 c8;have ed:bx<wr.heap.size+1:=by omega
   have ei:bx<wr.heap.size+1+1:=by omega
   have ek:cd<wr.heap.size+1:=by omega
   have el:cd<wr.heap.size+1+1:=by omega
   go_upto_region 9 with fail
   go_cut[13,14] (fun dv dw G=>∃Y ab:Nat,dv=az (some ⟨Y,0,none⟩)∧dw=az (some ⟨ab,0,none⟩)∧(St w.heap.size h w h G∧G.heap[w.heap.size]? =wr.heap[w.heap.size]?∧G.heap[w.heap.size+1]? =wr.heap[w.heap.size+1]?∧wr.heap.size<G.heap.size∧Y<G.heap.size∧ab<G.heap.size∧wr.heap.size<Y∧wr.heap.size<ab∧
    G.cell? ⟨wr.heap.size,0,none⟩=some (af ae p.1)∧G.cell? ⟨wr.heap.size,1,none⟩=some (af ae p.2))∧
    (G.cell? ⟨Y,0,none⟩=some (af ae (nd x p.1).kind)∧G.cell? ⟨Y,1,none⟩=some (ah (nd x p.1).text)∧G.cell? ⟨Y,2,none⟩=some (af ae (nd x p.1).parent)∧G.cell? ⟨Y,3,none⟩=some (ag cK (nd x p.1).kids.length cQ)∧G.cell? ⟨Y,4,none⟩=some (af ae (nd x p.1).size))∧
    G.cell? ⟨ab,0,none⟩=some (af ae (nd y p.2).kind)∧G.cell? ⟨ab,1,none⟩=some (ah (nd y p.2).text)∧G.cell? ⟨ab,2,none⟩=some (af ae (nd y p.2).parent)∧G.cell? ⟨ab,3,none⟩=some (ag cM (nd y p.2).kids.length cS)∧G.cell? ⟨ab,4,none⟩=some (af ae (nd y p.2).size))
   case first=>
    go_region
    all_goals
     go_wp2_with fail;go_meet;refine⟨_,_,rfl,rfl,⟨(((M.out.st.alloc _).alloc _).alloc _).drew,?_,?_,?_,?_,?_,?_,?_,?_,?_⟩,⟨?_,?_,?_,?_,?_⟩,?_,?_,?_,?_,?_⟩;·show((((wr.alloc _).alloc _).alloc _).heap)[w.heap.size]? =_;rw[fp _ _ _ (by simp;omega),fp _ _ _ (by simp;omega),fp _ _ _ (by omega)]
     ·show((((wr.alloc _).alloc _).alloc _).heap)[w.heap.size+1]? =_;rw[fp _ _ _ (by simp;omega),fp _ _ _ (by simp;omega),fp _ _ _ (by omega)]
     all_goals first
      |omega
      |(simp;done)
      |(simp;omega)
      |(simp;done)
      |(rw[Cm,cJ _ _ _ _ (by simp)];rfl)
      |(rw[Cm,eg _ _ _ (by simp),cJ _ _ _ _ (by simp)];rfl)
      |(rw[Cm,eg _ _ _ (by simp;omega),eg _ _ _ (by simp),cJ _ _ _ _ rfl];rfl)
   case rest=>
    obtain⟨Y,ab,rfl,rfl,⟨bV,ct,co,aQ,aj,ak,eG,eH,cu,cv⟩,⟨a0,bX,bY,bZ,b0⟩,b9,b1,b2,b3,cc⟩:=hcut;have bA:=aa bV;have a2:Hid (¬kg x y (A.take j) p→vz w (dP x y A) (.returned (bD #[af ae 0,ay false])) wc):=fun aZ=>by rw[bN.out aZ];exact⟨rfl,bA.out.below⟩
    have bq:=aa ct;have aO:=aa co;clear bV ct co dU dW dX dY dZ d0 d1 d2 d3 d4 cN c1 cU cV;by_cases aX:(nd x p.1).kind=(nd y p.2).kind;case neg=>have db:=q0 aX;go_wp2_with fail;go_ret2;exact a2.out (fun O=>aX O.2.2.2.2.1)
    have db:=ti aX;have bO:=aa aX;clear aX;by_cases aN:p=(0,0)
    ·have eq:(p.1==0)=true:=by rw[aN];rfl
     have er:(p.2==0)=true:=by rw[aN];rfl
     have aJ:=aa aN;clear aN;by_cases ac:j=0;case neg=>have bJ:((j:Int)==0)=false:=wX ac;have aS:Hid (j≠0):=ac;clear ac;go_wp2_with fail;go_ret2;exact a2.out (fun O=>aS.out (a4.out.1 (O.2.2.2.2.2.1.1 aJ.out)))
     have bJ:((j:Int)==0)=true:=wW ac;have bm:Hid (kg x y (A.take j) p):=⟨by rw[ax.out];exact ce,by rw[ax.out];exact cf,bE,bG,bO.out,⟨fun _=>a4.out.2 ac,fun _=>aJ.out⟩,.inl aJ.out⟩
     clear ac;obtain⟨cq,aM,aL⟩:=M.out.map;obtain⟨aT,dg,aY,E⟩:=(aM.U bq.out).qZ p (ay true) 249 4 Cn;have dF:=(E.cellOf (i:=0) aQ (by simp only[ne_eq,aC];omega)).1.trans cu;have dG:=(E.cellOf (i:=1) aQ (by simp only[ne_eq,aC];omega)).1.trans cv;have v0:=(E.cellOf (i:=0) aj (by simp only[ne_eq,aC];omega)).1.trans a0;have dN:=(E.cellOf (i:=1) aj (by simp only[ne_eq,aC];omega)).1.trans bX;have dO:=(E.cellOf (i:=2) aj (by simp only[ne_eq,aC];omega)).1.trans bY;have dQ:=(E.cellOf (i:=3) aj (by simp only[ne_eq,aC];omega)).1.trans bZ;have dR:=(E.cellOf (i:=4) aj (by simp only[ne_eq,aC];omega)).1.trans b0;have dA:=(E.cellOf (i:=0) ak (by simp only[ne_eq,aC];omega)).1.trans b9;have dB:=(E.cellOf (i:=1) ak (by simp only[ne_eq,aC];omega)).1.trans b1;have dC:=(E.cellOf (i:=2) ak (by simp only[ne_eq,aC];omega)).1.trans b2;have dD:=(E.cellOf (i:=3) ak (by simp only[ne_eq,aC];omega)).1.trans b3;have dE:=(E.cellOf (i:=4) ak (by simp only[ne_eq,aC];omega)).1.trans cc;have ad:∀i,aT.cell? ⟨w.heap.size+1,i,none⟩=wr.cell? ⟨w.heap.size+1,i,none⟩∧aT.frozen? ⟨w.heap.size+1,i,none⟩=false:=fun i=>by obtain⟨bB,bC⟩:=E.cellOf (b:=w.heap.size+1) (i:=i) (by omega) (by simp only[ne_eq,aC];omega);exact⟨bB.trans (dc (a:=⟨w.heap.size+1,i,none⟩) aO.out),by rw[bC,kG (a:=⟨w.heap.size+1,i,none⟩) aO.out];exact M.out.fz i⟩
     have dt:=(ad 0).1.trans M.out.c0;have du:=(ad 1).1.trans M.out.c1;have cX:=(ad 0).2;have cY:=(ad 1).2;have dj:w.heap.size+1≠Y:=by omega
     have dk:w.heap.size+1≠ab:=by omega
     have dm:Y≠w.heap.size+1:=by omega
     have dn:ab≠w.heap.size+1:=by omega
     have dp:wr.heap.size≠w.heap.size+1:=by omega
     have bg:=aa aY;have ba:=aa E;have a9:=aa aL;have c9:=mM (nd x p.1).text (nd y p.2).text;clear aY E ad aM aL;go_wp2_with fail;refine(tt _ _ _ _ _ _ _ _ _ _ _ _ _ _ _).mono ?_;rintro e dT ⟨rfl,aV⟩;have bv:=aa (M.out.next bd.out bR.out bS.out ⟨bH,bI⟩ bA.out aQ a9.out aO.out bg.out ba.out aV);have bz:Hid (gB x y (A.take (j+1)) (A.drop (j+1)) (z+(cZ (nd x p.1).text (nd y p.2).text-2))=dP x y A):=by unfold Hid;rw[←R.out,bp.out,if_pos bm.out]
     clear aV;go_wp2_with fail;go_roundw;case rel=>exact⟨j+1,_,by omega,by go_num,rfl,by omega,bv.out,bz⟩
     case measure=>simp[intOf];omega
    ·have r0:(p.1==0&&p.2==0)=false:=by rw[Bool.eq_false_iff];intro e;simp only[cy,beq_iff_eq]at e;exact aN (Prod.ext e.1 e.2)
     have aJ:Hid (p≠(0,0)):=aN;clear aN;by_cases ac:j=0;·have bJ:((j:Int)==0)=true:=wW ac;have aS:Hid (j=0):=ac;clear ac;go_wp2_with fail;go_ret2;exact a2.out (fun O=>aJ.out (O.2.2.2.2.2.1.2 (a4.out.2 aS.out)))
     have bJ:((j:Int)==0)=false:=wX ac;have aS:Hid (j≠0):=ac;clear ac
     have de:Hid (∀q:Int×Int,(Instr.lookup 249 (.map (some w.heap.size)) (.agg #[af ae q.1,af ae q.2]) false).run ai wc= .ok (ay (decide (q∈A.take j))) wc):=fun q=>by
      obtain⟨cq,aM,aL⟩:=M.out.map;have:=aM.look q 249 4 (ay false) Cn (fun _=>by kernel_rfl) wc bq.out;rw[this,aL q];by_cases a8:q∈A.take j;·rw[if_pos a8,decide_eq_true a8];rfl
      ·rw[if_neg a8,decide_eq_false a8];rfl
     have ch:=de.out ((nd x p.1).parent,(nd y p.2).parent);by_cases aP:((nd x p.1).parent,(nd y p.2).parent)∈A.take j;case neg=>rw[decide_eq_false aP]at ch;have cD:Hid (((nd x p.1).parent,(nd y p.2).parent)∉A.take j):=aP;clear aP;go_wp2_with fail;go_ret2;exact a2.out (fun O=>by rcases O.2.2.2.2.2.2 with e|e;exact aJ.out e;exact cD.out e)
     rw[decide_eq_true aP]at ch;have bm:Hid (kg x y (A.take j) p):=⟨by rw[ax.out];exact ce,by rw[ax.out];exact cf,bE,bG,bO.out,⟨fun e=>absurd e aJ.out,fun e=>absurd (a4.out.1 e) aS.out⟩,.inr aP⟩
     clear aP;obtain⟨cq,aM,aL⟩:=M.out.map;obtain⟨aT,dg,aY,E⟩:=(aM.U bq.out).qZ p (ay true) 249 4 Cn;have dF:=(E.cellOf (i:=0) aQ (by simp only[ne_eq,aC];omega)).1.trans cu;have dG:=(E.cellOf (i:=1) aQ (by simp only[ne_eq,aC];omega)).1.trans cv;have v0:=(E.cellOf (i:=0) aj (by simp only[ne_eq,aC];omega)).1.trans a0;have dN:=(E.cellOf (i:=1) aj (by simp only[ne_eq,aC];omega)).1.trans bX;have dO:=(E.cellOf (i:=2) aj (by simp only[ne_eq,aC];omega)).1.trans bY;have dQ:=(E.cellOf (i:=3) aj (by simp only[ne_eq,aC];omega)).1.trans bZ;have dR:=(E.cellOf (i:=4) aj (by simp only[ne_eq,aC];omega)).1.trans b0;have dA:=(E.cellOf (i:=0) ak (by simp only[ne_eq,aC];omega)).1.trans b9;have dB:=(E.cellOf (i:=1) ak (by simp only[ne_eq,aC];omega)).1.trans b1;have dC:=(E.cellOf (i:=2) ak (by simp only[ne_eq,aC];omega)).1.trans b2;have dD:=(E.cellOf (i:=3) ak (by simp only[ne_eq,aC];omega)).1.trans b3;have dE:=(E.cellOf (i:=4) ak (by simp only[ne_eq,aC];omega)).1.trans cc;have ad:∀i,aT.cell? ⟨w.heap.size+1,i,none⟩=wr.cell? ⟨w.heap.size+1,i,none⟩∧aT.frozen? ⟨w.heap.size+1,i,none⟩=false:=fun i=>by obtain⟨bB,bC⟩:=E.cellOf (b:=w.heap.size+1) (i:=i) (by omega) (by simp only[ne_eq,aC];omega);exact⟨bB.trans (dc (a:=⟨w.heap.size+1,i,none⟩) aO.out),by rw[bC,kG (a:=⟨w.heap.size+1,i,none⟩) aO.out];exact M.out.fz i⟩
     have dt:=(ad 0).1.trans M.out.c0;have du:=(ad 1).1.trans M.out.c1;have cX:=(ad 0).2;have cY:=(ad 1).2;have dj:w.heap.size+1≠Y:=by omega
     have dk:w.heap.size+1≠ab:=by omega
     have dm:Y≠w.heap.size+1:=by omega
     have dn:ab≠w.heap.size+1:=by omega
     have dp:wr.heap.size≠w.heap.size+1:=by omega
     have bg:=aa aY;have ba:=aa E;have a9:=aa aL;have c9:=mM (nd x p.1).text (nd y p.2).text;clear aY E ad aM aL;go_wp2_with fail;refine(tt _ _ _ _ _ _ _ _ _ _ _ _ _ _ _).mono ?_;rintro e dT ⟨rfl,aV⟩;have bv:=aa (M.out.next bd.out bR.out bS.out ⟨bH,bI⟩ bA.out aQ a9.out aO.out bg.out ba.out aV);have bz:Hid (gB x y (A.take (j+1)) (A.drop (j+1)) (z+(cZ (nd x p.1).text (nd y p.2).text-2))=dP x y A):=by unfold Hid;rw[←R.out,bp.out,if_pos bm.out]
     clear aV;go_wp2_with fail;go_roundw;case rel=>exact⟨j+1,_,by omega,by go_num,rfl,by omega,bv.out,bz⟩
     case measure=>simp[intOf];omega
  ·obtain rfl:j=A.length:=by omega
   go_wp2_with fail;go_ret2;have:dP x y A=some z:=by have:=R.out;rw[List.drop_length,gB]at this;exact this.symm
   rw[this];exact⟨rfl,P.st.below⟩
def bG(es:List dY)(q:Int×Int):Int:=match es.find? (fun e=>decide ((e.a,e.b)=q))with|some e=>e.cost|none=>0
def ju(x y:List aB)(p:Int×Int)(dm:Int×Int→Int):jr:=e0 (bL x p.1) (bL y p.2) (eA x y p dm)
def hT(x y:List aB)(p:Int×Int)(dm:Int×Int→Int):dY:=⟨p.1,p.2,cZ (nd x p.1).text (nd y p.2).text+(ju x y p dm).cost,ju x y p dm⟩
def aQ(x y:List aB):List (Int×Int)→List dY
 |[]=>[]
 |p::ps=>hT x y p (bG (aQ x y ps))::aQ x y ps
theorem ra(e:dY)(A:List dY)(q:Int×Int):bG (e::A) q=if q=(e.a,e.b)then e.cost else bG A q:=by
 unfold bG;by_cases h:(e.a,e.b)=q;·rw[List.find?_cons_of_pos (by simpa using h),if_pos h.symm]
 ·rw[List.find?_cons_of_neg (by simpa using h),if_neg (fun e=>h e.symm)]
theorem xD{l:List Int}(h:∀q∈l,0≤q):0≤l.sum:=by
 induction l with
 |nil=>simp
 |cons a l E=>rw[hA];have:=h a (by simp);have:=E (fun q A=>h q (by simp[A]));omega
theorem D7{l:List Int}(h:∀q∈l,0≤q){a:Int}(A:a∈l):a≤l.sum:=by
 induction l with
 |nil=>simp at A
 |cons b l G=>
  rw[hA];have h1:=h b (by simp);have h2:=xD (fun q E=>h q (List.mem_cons_of_mem _ E));rcases b8.1 A with rfl|A;·omega
  ·have:=G (fun q E=>h q (by simp[E])) A;omega
theorem mL{x:List aB}(E:WF x){i:Int}(A:0≤i)(h1:i<x.length):(nd x i).size=1+((nd x i).kids.map fun c=>(nd x c).size).sum:=E.sz i.toNat _ (gV A h1)
theorem size_pos{x:List aB}(E:WF x):∀(n:Nat) (i:Int),0≤i→i<x.length→(x.length:Int)-i≤n→1≤(nd x i).size:=by
 intro n;induction n with
 |zero=>intro i A h1 h2;omega
 |succ n ab=>
  intro i A h1 h2;rw[mL E A h1];have:=xD (l:=(nd x i).kids.map fun c=>(nd x c).size) (fun q Y=>by obtain⟨c,O,rfl⟩:=b6.1 Y;obtain⟨G,M,ac,_⟩:=eK E A h1 O;have:=ab c G M (by omega);omega)
  omega
theorem nP{x:List aB}(E:WF x){i:Int}(A:0≤i)(h1:i<x.length):1≤(nd x i).size:=size_pos E x.length i A h1 (by omega)
theorem size_le{x:List aB}(A:WF x):∀(n:Nat) (i:Int),0≤i→i<x.length→i≤n→(nd x i).size≤x.length:=by
 intro n;induction n using KT with
 |_ n ad=>
  intro i G h1 h2;by_cases hz:i=0;·subst hz;have:=A.kS;simpa[nd]using Int.le_of_eq this
  ·obtain⟨j,ax,g1,aj,_,E⟩:=A.par i.toNat _ (gV G h1) (by omega);have ak:=tx g1;have ab:i∈(nd x (j:Int)).kids:=by rw[nL g1];rw[Int.toNat_of_nonneg G]at E;exact E
   have hj:=ad j (by omega) (j:Int) (by omega) (by omega) (by omega);have ao:=mL A (i:=(j:Int)) (by omega) (by omega);have am:=D7 (l:=(nd x (j:Int)).kids.map fun c=>(nd x c).size) (fun q ac=>by obtain⟨c,Y,rfl⟩:=b6.1 ac;obtain⟨M,O,_,_⟩:=eK A (by omega) (by omega) Y;have:=nP A M O;omega) (b6.2 ⟨i,ab,rfl⟩)
   omega
theorem D8{drop add:List Int}{cost:List (List Int)}(_p:lS drop add cost):∀(i j:Nat),pt drop add cost i j≤(drop.take i).sum+(add.take j).sum:=by
 have E:∀(l:List Int) (k:Nat),(l.take (k+1)).sum=(l.take k).sum+l.getD k 0:=by
  intro l k;rw[j5,List.sum_append];cases h:l[k]?with
  |none=>simp[bb,h]
  |some v=>simp[bb,h]
 intro i;induction i with
 |zero=>
  intro j;induction j with
  |zero=>simp[pt,lR]
  |succ j A=>rw[E];have:pt drop add cost 0 (j+1)=pt drop add cost 0 j+add.getD j 0:=rfl;omega
 |succ i A=>
  intro j;cases j with
  |zero=>rw[oV,E];have:=A 0;omega
  |succ j=>
   rw[oU,E drop];have:=A (j+1);split;·omega
   ·omega
structure tN(x y:List aB)(e:dY):Prop where
 inr:bZ x y (e.a,e.b)
 lo:0≤e.cost
 hi:e.cost≤(nd x e.a).size+(nd y e.b).size
theorem tO{x y:List aB}(M:WF x)(hy:WF y)(O:x.length≤262144)(Y:y.length≤262144){E:List dY}(h:∀e∈E,tN x y e)(q:Int×Int):0≤bG E q∧bG E q≤524288:=by
 unfold bG;split;·rename_i e G;have A:=h e (List.mem_of_find?_eq_some G);have h1:=size_le M x.length e.a A.inr.1 A.inr.2.1 (by have:=A.inr.2.1;simp only at this;omega);have h2:=size_le hy y.length e.b A.inr.2.2.1 A.inr.2.2.2 (by have:=A.inr.2.2.2;simp only at this;omega);have:=A.lo;have:=A.hi;omega
 ·omega
def ct(l:List aB):Bool:=decide (l.length≤262144)&&l.all fun n=>decide (n.kids.length≤400)
theorem xE{l:List aB}(h:ct l=true)(i:Int):(nd l i).kids.length≤400:=by
 unfold ct at h;simp only[cy,decide_eq_true_eq,j4]at h;unfold nd;rw[bb];cases hg:l[i.toNat]?with
 |none=>simp[default]
 |some v=>exact h.2 v (nw hg)
theorem tP{x y:List aB}(ac:WF x)(hy:WF y)(nx:ct x=true)(O:ct y=true){p:Int×Int}(M:bZ x y p)(Y:Int×Int→Int)(ad:∀q,0≤Y q∧Y q≤524288):lS (bL x p.1) (bL y p.2) (eA x y p Y):=by
 have aj:x.length≤262144:=by unfold ct at nx;simp only[cy,decide_eq_true_eq]at nx;exact nx.1
 have ak:y.length≤262144:=by unfold ct at O;simp only[cy,decide_eq_true_eq]at O;exact O.1
 refine⟨by simpa[bL]using xE nx p.1,by simpa[bL]using xE O p.2,by simp[eA,bL],fun i h=>by simp[eA,bL],?_,?_,?_⟩;·intro q A;obtain⟨c,ab,rfl⟩:=b6.1 A;obtain⟨E,G,_,_⟩:=eK ac M.1 M.2.1 ab;have:=nP ac E G;have:=size_le ac x.length c E G (by omega);omega
 ·intro q A;obtain⟨c,ab,rfl⟩:=b6.1 A;obtain⟨E,G,_,_⟩:=eK hy M.2.2.1 M.2.2.2 ab;have:=nP hy E G;have:=size_le hy y.length c E G (by omega);omega
 ·intro i h q A;simp only[eA,List.getElem_map,b6]at A;obtain⟨k,_,rfl⟩:=A;split;·have:=ad (((nd x p.1).kids[i]'(by simpa[eA]using h)),k);omega
  ·omega
theorem D9{x y:List aB}(G:WF x)(hy:WF y){p:Int×Int}(A:bZ x y p)(E:Int×Int→Int)(h:lS (bL x p.1) (bL y p.2) (eA x y p E)):tN x y (hT x y p E):=by
 have h1:=mK h (bL x p.1).length (bL y p.2).length;have h2:=D8 h (bL x p.1).length (bL y p.2).length;rw[cP,cP]at h2;have M:=mM (nd x p.1).text (nd y p.2).text;have O:=mL G A.1 A.2.1;have Y:=mL hy A.2.2.1 A.2.2.2;refine⟨A,?_,?_⟩;·simp only[hT,ju,e0];omega
 ·simp only[hT,ju,e0];unfold bL at h2;unfold bL;omega
theorem tQ{x y:List aB}(G:WF x)(hy:WF y)(nx:ct x=true)(E:ct y=true):∀(l:List (Int×Int)),(∀p∈l,bZ x y p)→∀e∈aQ x y l,tN x y e
 |[],_,e,A=>by simp[aQ]at A
 |p::Y,h,e,A=>by
  have ab:x.length≤262144:=by unfold ct at nx;simp only[cy,decide_eq_true_eq]at nx;exact nx.1
  have ac:y.length≤262144:=by unfold ct at E;simp only[cy,decide_eq_true_eq]at E;exact E.1
  have M:=tQ G hy nx E Y (fun q O=>h q (by simp[O]));rw[aQ]at A;rcases b8.1 A with rfl|A;·exact D9 G hy (h p (by simp)) _ (tP G hy nx E (h p (by simp)) _ (tO G hy ab ac M))
  ·exact M e A
def bk:Value→Option Nat
 | ag (some a) _ _=>some a.block
 | az (some a)=>some a.block
 |_=>none
def jv:List Oper→(Nat→Value)→Nat→Act→Act
 |[],_,_,a=>a
 |o::r,x,n,a=>jv r x (n+1) (a.put o.dst (x n))
structure x5(P:Program)(ops:Array Oper)(F:Nat→(Nat→Value)→Value→World→Prop)(R:World→Prop)(N:Nat→Prop)(a0:Act)(l:Array Bool)(x:Nat→Value)(a:Act)(w:World):Prop where
 ui:l.size=ops.size
 sz:a.tmps.size=a0.tmps.size
 df:a.defers=a0.defers
 U:∀k,(∀(j:Nat) (o:Oper),ops[j]? =some o→o.dst=some k→l.getD j false=false)→a.tmps[k]? =a0.tmps[k]?
 uj:∀(j:Nat) (o:Oper) (d:Tmp),ops[j]? =some o→o.dst=some d→l.getD j false=true→a.tmps[d]? =some (x j)
 x6:∀(j:Nat) (o:Oper),ops[j]? =some o→l.getD j false=true→∀e∈o.after,oq .any e=true→l.getD e.on false=true
 fact:∀j,j<ops.size→l.getD j false=true→F j x (x j) w
 lt:∀j,N j→l.getD j false=true→∀g,bk (x j)=some g→g<w.heap.size
 apart:∀i j,N i→N j→i≠j→l.getD i false=true→l.getD j false=true→∀g,bk (x i)=some g→bk (x j)≠some g
 r:R w
theorem uk{l:Array Bool}{i:Nat}(h:l.getD i true=false):i<l.size:=by
 rcases b7 i l.size with q|q;·exact q
 ·simp[oC,Nat.not_lt.2 q]at h
theorem E0{l:Array Bool}{i:Nat}(h:l.getD i true=false):l.getD i false=false:=by have:=uk h;simp only[oC,this,dif_pos]at h⊢;exact h
theorem E1(l:Array Bool)(i j:Nat)(A:i<l.size):(l.setIfInBounds i true).getD j false=if i=j then true else l.getD j false:=by
 by_cases e:i=j;·subst e;simp[oC,A]
 ·rw[if_neg e];simp only[oC,Array.size_setIfInBounds];by_cases h:j<l.size;·simp only[h,dif_pos];exact Array.getElem_setIfInBounds_ne h e
  ·simp only[h,dif_neg,not_false_eq_true]
theorem p4(a:Act)(d k:Nat)(v:Value):(a.put (some d) v).tmps[k]? =if d=k then(if d<a.tmps.size then some v else none)else a.tmps[k]? :=by
 unfold br;by_cases e:d=k;·subst e;by_cases h:d<a.tmps.size<;>simp[h]
 ·simp[e]
theorem x7:∀(l:List Oper) (x:Nat→Value) (n:Nat) (a:Act),(jv l x n a).tmps.size=a.tmps.size∧(jv l x n a).defers=a.defers
 |[],_,_,_=>⟨rfl,rfl⟩
 |o::r,x,n,a=>by obtain⟨h1,h2⟩:=x7 r x (n+1) (a.put o.dst (x n));unfold jv;rw[h1,h2];cases o.dst<;>simp[br]
theorem x8:∀(l:List Oper) (x:Nat→Value) (n:Nat) (a:Act) (k:Nat),((∀(j:Nat) (o:Oper),l[j]? =some o→o.dst≠some k)→(jv l x n a).tmps[k]? =a.tmps[k]?)∧(∀(j:Nat) (o:Oper),l[j]? =some o→o.dst=some k→(∀(i:Nat) (A:Oper),l[i]? =some A→i≠j→A.dst≠some k)→k<a.tmps.size→(jv l x n a).tmps[k]? =some (x (n+j)))
 |[],_,_,_,_=>⟨fun _=>rfl,fun j o h=>by simp at h⟩
 |o::r,x,n,a,k=>by
  obtain⟨h1,h2⟩:=x8 r x (n+1) (a.put o.dst (x n)) k;unfold jv;refine⟨fun h=> ?_,fun j A hj E Y O=> ?_⟩
  ·rw[h1 fun j A hj=>h (j+1) A (by simpa using hj)];have:=h 0 o (by simp);cases E:o.dst with
   |none=>rfl
   |some d=>rw[p4,if_neg (fun e=>this (by rw[E,e]))]
  ·cases j with
   |zero=>simp only[List.getElem?_cons_zero,aC]at hj;subst hj;rw[h1 fun i M G=>Y (i+1) M (by simpa using G) (by omega),E,p4,if_pos rfl,if_pos O];rfl
   |succ j=>have:=h2 j A (by simpa using hj) E (fun i M G ab=>Y (i+1) M (by simpa using G) (by omega)) (by cases o.dst<;>simp[br,O]);rw[this,show n+1+j=n+(j+1) by omega]
section
variable {P:Program} {ops:Array Oper} {Q:Exit→Act→World→Prop} {F:Nat→(Nat→Value)→Value→World→Prop} {R:World→Prop} {N:Nat→Prop} {a0:Act}
theorem E2(bR:∀i x v w w',F i x v w→Below w.heap.size w w'→F i x v w')(hF:∀(i:Nat) (o:Oper),ops[i]? =some o→∀x bq v w,(∀e∈o.after,oq .any e=true→x e.on=bq e.on)→F i x v w→F i bq v w)(bL:∀(i:Nat) (o:Oper),ops[i]? =some o→o.guard=none)(bd:∀(i:Nat) (o:Oper),ops[i]? =some o→∃d,o.dst=some d∧d<a0.tmps.size)(bp:∀(i j:Nat) (o M:Oper) (d:Tmp),ops[i]? =some o→ops[j]? =some M→o.dst=some d→M.dst=some d→i=j)
  (hstep:∀(i:Nat) (o:Oper),ops[i]? =some o→∀x a w,R w→a.tmps.size=a0.tmps.size→(∀k,(∀(j:Nat) (M:Oper),ops[j]? =some M→M.dst≠some k)→a.tmps[k]? =a0.tmps[k]?)→
   (∀e∈o.after,oq .any e=true→∀(aZ:Oper) (d:Tmp),ops[e.on]? =some aZ→aZ.dst=some d→a.tmps[d]? =some (x e.on)∧F e.on x (x e.on) w)→
   ∀aQ:Act→World→Prop,(∀v w',F i x v w'→Below w.heap.size w w'→R w'→(N i→∀g,bk v=some g→w.heap.size≤g∧g<w'.heap.size)→aQ (a.put o.dst v) w')→o.wp P a w aQ Q)
  (hend:∀x w,R w→(∀i,i<ops.size→F i x (x i) w)→(∀i j,i<ops.size→j<ops.size→N i→N j→i≠j→∀g,bk (x i)=some g→bk (x j)≠some g)→Q .normal (jv ops.toList x 0 a0) w)
  (bI:∀l:Array Bool,l.size=ops.size→jE .any ops l=[]→∀i,i<ops.size→l.getD i false=true):
  ∀(f:Nat) (l:Array Bool) (x:Nat→Value) (a:Act) (w:World),l.toList.count false≤f→x5 P ops F R N a0 l x a w→wpAny P .any ops Q f l a w:=by
 have a9:∀(l:Array Bool) (x:Nat→Value) (a:Act) (w:World),x5 P ops F R N a0 l x a w→jE .any ops l=[]→Q .normal a w:=by
  intro l x a w A aN;have ax:=bI l A.ui aN
  have bH:a=jv ops.toList x 0 a0:=by
   obtain⟨b0,bY⟩:=x7 ops.toList x 0 a0
   have a8:a.tmps=(jv ops.toList x 0 a0).tmps:=by
    apply Array.ext_getElem?;intro k;obtain⟨g1,bB⟩:=x8 ops.toList x 0 a0 k;by_cases ad:∃(j:Nat) (o:Oper),ops[j]? =some o∧o.dst=some k
    ·obtain⟨j,o,E,aT⟩:=ad
     have bN:j<ops.size:=by
      rcases b7 j ops.size with q|q;·exact q
      ·rw[iF q]at E;cases E
     obtain⟨d,ab,a2⟩:=bd j o E;rw[aT]at ab;obtain rfl:=aU ab;rw[A.uj j o k E aT (ax j bN),bB j o (by simpa using E) aT (fun i M ac ak e=>ak (bp i j M o k (by simpa using ac) E e aT)) a2,Nat.zero_add]
    ·have bg:∀(j:Nat) (o:Oper),ops[j]? =some o→o.dst≠some k:=fun j o E e=>ad ⟨j,o,E,e⟩;rw[A.U k fun j o E e=>absurd e (bg j o E),g1 fun j o E=>bg j o (by simpa using E)]
   obtain⟨t,bv⟩:=a;have O:bv=(jv ops.toList x 0 a0).defers:=by rw[bY];exact A.df
   simp only at a8;rw[a8,O]
  rw[bH];exact hend x w A.r (fun i ac=>A.fact i ac (ax i ac)) fun i j ac hj bX aY ak=>A.apart i j bX aY ak (ax i ac) (ax j hj)
 intro f;induction f with
 |zero=>
  intro l x a w bJ A
  have aN:jE .any ops l=[]:=by
   rw[List.eq_nil_iff_forall_not_mem];intro i ac;have ao:=(mem_ready.1 ac).1;have aB:=uk ao;have:false∈l.toList:=by simp only[oC,aB,dif_pos]at ao;exact Array.mem_toList_iff.2 (ao▸Array.getElem_mem aB)
   have:=Kn.2 this;omega
  exact⟨aN,a9 l x a w A aN⟩
 |succ f bV=>
  intro l x a w bJ A;refine⟨fun aN=>a9 l x a w A aN,fun i ac=> ?_⟩;obtain⟨ao,o,E,aS⟩:=mem_ready.1 ac;have aB:=uk ao;have bC:=E0 ao;have bZ:i<ops.size:=by rw[←A.ui];exact aB
  obtain⟨d,ab,a2⟩:=bd i o E;refine wpOp_step E fun aQ bE=> ?_;have bS:ox o (yielded ops a.tmps)=true:=by simp[ox,bL i o E]
  rw[if_pos bS]
  refine hstep i o E x a w A.r A.sz (fun k ad=>A.U k fun j M hj e=>absurd e (ad j M hj)) (fun e aj Y aZ bz aJ aO=>⟨A.uj e.on aZ bz aJ aO (aS e aj Y),A.fact e.on (by
   rcases b7 e.on ops.size with q|q;·exact q
   ·rw[iF q]at aJ;cases aJ) (aS e aj Y)⟩) aQ fun v w' aX ba bG a1=>bE _ _ (bV (l.setIfInBounds i true) (fun k=>if k=i then v else x k) _ w' ?_ ?_)
  ·have:(l.setIfInBounds i true).toList.count false<l.toList.count false:=by
    rw[Array.toList_setIfInBounds];have bm:i<l.toList.length:=by simpa using aB
    rw[List.count_set (h:=bm)];have aX:l.toList[i]=false:=by simp only[oC,aB,dif_pos]at ao;simpa using ao
    have aL:0<l.toList.count false:=Kn.2 (aX▸List.getElem_mem bm);rw[aX];simp only[beq_self_eq_true,if_true];have am:(true==false)=false:=rfl;rw[am];simp only[Bool.false_eq_true,if_false];omega
   omega
  ·have aG:∀j,(l.setIfInBounds i true).getD j false=if i=j then true else l.getD j false:=fun j=>E1 l i j aB;have a3:∀k,l.getD k false=true→(if k=i then v else x k)=x k:=fun k ad=>by rw[if_neg (fun e=>by subst e;rw[bC]at ad;cases ad)]
   have bT:∀j,j<ops.size→l.getD j false=true→F j (fun k=>if k=i then v else x k) (x j) w':=fun j hj ax=>by have aJ:=pn hj;exact hF j _ aJ x _ _ _ (fun e aj Y=>(a3 e.on (A.x6 j _ aJ ax e aj Y)).symm) (bR j _ _ w w' (A.fact j hj ax) ba)
   refine⟨by simpa using A.ui,?_,?_,?_,?_,?_,?_,?_,?_,bG⟩;·rw[ab];simpa[br]using A.sz
   ·rw[ab];simpa[br]using A.df
   ·intro k ad;have bO:d≠k:=fun e=>by have:=ad i o E (by rw[ab,e]);rw[aG,if_pos rfl]at this;cases this
    rw[ab,p4,if_neg bO];refine A.U k fun j M hj e=> ?_;have:=ad j M hj e;rw[aG]at this;split at this;·cases this
    ·exact this
   ·intro j M d' hj aO G;rw[aG]at G;by_cases e:i=j;·subst e;obtain rfl:=aU (E.symm.trans hj);obtain rfl:=aU (ab.symm.trans aO);rw[ab,p4,if_pos rfl,if_pos (by rw[A.sz];exact a2),if_pos rfl]
    ·rw[if_neg e]at G;have ak:d≠d':=fun O=>e (bp i j o M d E hj ab (by rw[O];exact aO));rw[ab,p4,if_neg ak,a3 j G];exact A.uj j M d' hj aO G
   ·intro j M hj G e aj Y;rw[aG]at G⊢;by_cases am:i=j;·subst am;obtain rfl:=aU (E.symm.trans hj);rw[aS e aj Y];simp
    ·rw[if_neg am]at G;rw[A.x6 j M hj G e aj Y];simp
   ·intro j hj G;rw[aG]at G;by_cases e:i=j;·subst e;rw[if_pos rfl];exact hF i o E x _ _ _ (fun e aj Y=>(a3 e.on (aS e aj Y)).symm) aX
    ·rw[if_neg e]at G;rw[if_neg (fun O=>e O.symm)];exact bT j hj G
   ·intro j aY G g Y;rw[aG]at G;by_cases e:i=j;·subst e;rw[if_pos rfl]at Y;exact(a1 aY g Y).2
    ·rw[if_neg e]at G;rw[if_neg (fun O=>e O.symm)]at Y;exact Nat.lt_of_lt_of_le (A.lt j aY G g Y) ba.size
   ·intro p q a4 a5 ak aV aP g aL aM;rw[aG]at aV aP;by_cases am:i=p;·subst am;rw[if_neg ak]at aP;rw[if_pos rfl]at aL;rw[if_neg (fun O=>ak O.symm)]at aM;have:=(a1 a4 g aL).1;have:=A.lt q a5 aP g aM;omega
    ·rw[if_neg am]at aV;rw[if_neg (fun O=>am O.symm)]at aL;by_cases O:i=q;·subst O;rw[if_pos rfl]at aM;have:=(a1 a5 g aM).1;have:=A.lt p a4 aV g aL;omega
     ·rw[if_neg O]at aP;rw[if_neg (fun bA=>O bA.symm)]at aM;exact A.apart p q a4 a5 ak aV aP g aL aM
def oX(ops:Array Oper)(sz:Nat):Bool:=
 (ops.toList.zipIdx.all fun p=>p.1.guard.isNone&&(match p.1.dst with|some d=>decide (d<sz)|none=>false)&&p.1.after.all fun e=>decide (e.on<p.2))&&decide ((ops.toList.map fun o=>o.dst).Nodup)
theorem rz{ops:Array Oper}{E:Nat}(h:oX ops E=true){i:Nat}{o:Oper}(O:ops[i]? =some o):o.guard=none∧(∃d,o.dst=some d∧d<E)∧∀e∈o.after,e.on<i:=by
 unfold oX at h;rw[cy,j4]at h;have M:(o,i)∈ops.toList.zipIdx:=by rw[List.mk_mem_zipIdx_iff_getElem?];simpa using O
 have:=h.1 _ M;simp only[cy,Option.isNone_iff_eq_none]at this;obtain⟨⟨h1,h2⟩,A⟩:=this;refine⟨h1,?_,?_⟩
 ·cases hd:o.dst with
  |none=>rw[hd]at h2;cases h2
  |some d=>rw[hd]at h2;exact⟨d,rfl,of_decide_eq_true h2⟩
 ·intro e G;rw[Array.all_eq_true']at A;exact of_decide_eq_true (A e G)
theorem E3{ops:Array Oper}{ab:Nat}(h:oX ops ab=true){i j:Nat}{o E:Oper}{d:Tmp}(M:ops[i]? =some o)(hj:ops[j]? =some E)(h1:o.dst=some d)(h2:E.dst=some d):i=j:=by
 unfold oX at h;rw[cy]at h;have Y:=of_decide_eq_true h.2;have A:(ops.toList.map fun o=>o.dst)[i]? =some (some d):=by rw[jB];simp[M,h1]
 have G:(ops.toList.map fun o=>o.dst)[j]? =some (some d):=by rw[jB];simp[hj,h2]
 have O:i<(ops.toList.map fun o=>o.dst).length:=by
  rcases b7 i (ops.toList.map fun o=>o.dst).length with q|q;·exact q
  ·rw[List.getElem?_eq_none q]at A;cases A
 exact(List.getElem?_inj O Y).1 (A.trans G.symm)
theorem E4{ops:Array Oper}{ab:Nat}(h:oX ops ab=true)(l:Array Bool)(ac:l.size=ops.size)(O:jE .any ops l=[]):∀i,i<ops.size→l.getD i false=true:=by
 intro i;induction i using KT with
 |_ i Y=>
  intro G;have A:=pn G;by_cases e:l.getD i false=true;·exact e
  ·exfalso
   have:i∈jE .any ops l:=mem_ready.2 ⟨by
    have M:i<l.size:=by omega
    simp only[oC,M,dif_pos]at e⊢;simpa using e,_,A,fun x E _=>Y x.on ((rz h A).2.2 x E) (by have:=(rz h A).2.2 x E;omega)⟩
   rw[O]at this;cases this
theorem E5{aQ:Nat}{w:World}(aM:P.follows .mixedOrders=true)(M:oX ops a0.tmps.size=true)(F:Nat→(Nat→Value)→Value→World→Prop)(R:World→Prop)(N:Nat→Prop)(aN:∀i x v w w',F i x v w→Below w.heap.size w w'→F i x v w')(hF:∀(i:Nat) (o:Oper),ops[i]? =some o→∀x aj v w,(∀e∈o.after,oq .any e=true→x e.on=aj e.on)→F i x v w→F i aj v w)(ax:R w.drew)
  (hstep:∀(i:Nat) (o:Oper),ops[i]? =some o→∀x a w,R w→(∀k v,(ops.toList.all fun O=>decide (O.dst≠some k))=true→a0.tmps[k]? =some v→a.eval (.tmp k)=v)→
   (∀e∈o.after,oq .any e=true→∀(E:Oper) (d:Tmp),ops[e.on]? =some E→E.dst=some d→a.eval (.tmp d)=x e.on∧F e.on x (x e.on) w)→
   ∀G:Act→World→Prop,(∀v w',F i x v w'→Below w.heap.size w w'→R w'→(N i→∀g,bk v=some g→w.heap.size≤g∧g<w'.heap.size)→G (a.put o.dst v) w')→o.wp P a w G Q)
  (hend:∀x w,R w→(∀i,i<ops.size→F i x (x i) w)→(∀i j,i<ops.size→j<ops.size→N i→N j→i≠j→∀g,bk (x i)=some g→bk (x j)≠some g)→Q .normal (jv ops.toList x 0 a0) w):
  (Code.region aQ ops true).wp P Q a0 w:=by
 have Y:∀{a:Act} {k:Nat} {v:Value},a.tmps[k]? =some v→a.eval (.tmp k)=v:=fun h=>by simp only[Act.eval,Array.getD_eq_getD_getElem?,h,Option.getD_some]
 refine wp_region_any aM (E2 (N:=N) (a0:=a0) (F:=F) (R:=R) aN hF (fun i o A=>(rz M A).1) (fun i o A=>(rz M A).2.1) (fun i j o O d h1 h2 ak am=>E3 M h1 h2 ak am)
  (fun i o A x a w aP aS aG ac G ao=>hstep i o A x a w aP (fun k v aJ aL=>Y (by rw[aG k (fun j O aO=>of_decide_eq_true (j4.1 aJ O (nw (i:=j) (by simpa using aO))))];exact aL)) (fun e ad ab E d h1 h2=>⟨Y (ac e ad ab E d h1 h2).1,(ac e ad ab E d h1 h2).2⟩) G ao)
  hend (E4 M) _ _ (fun _=>undef) _ _ ?_ ?_)
 ·simp
 ·have aB:∀j,(Array.replicate ops.size false).getD j false=false:=fun j=>by simp only[oC];split<;>simp
  refine⟨by simp,rfl,rfl,fun _ _=>rfl,fun j o d _ _ h=> ?_,fun j o _ h=> ?_,fun j _ h=> ?_,fun j _ h=> ?_,fun i j _ _ _ h=> ?_,ax⟩<;>(rw[aB]at h;cases h)
end
theorem yB:∃j,ai.info? 224=some j∧j.size=2:=by
 have:(ai.info? 224).map (·.size)=some 2:=by kernel_rfl
 exact Option.map_eq_some_iff.1 this
theorem FL(b:Nat)(w:World)(A:w.cell? ⟨b,0,none⟩=some (az (some ⟨b,0,none⟩))):Calls ai 191 #[az (some ⟨b,0,none⟩)] w fun e w'=>e= .returned (bD #[])∧w'=w:=by obtain⟨j,hj,_⟩:=yB;go_enter Tryz.func191,Tryz.ntmps191;go_wp2;rw[Lib.run_neq_ptr_same w _ B6 hj];go_wp2;go_end0;exact⟨rfl,rfl⟩
theorem FM(b:Nat)(w:World)(G:w.cell? ⟨b,0,none⟩=some (az none))(A:w.shape? b=some (224,2))(M:w.frozen? ⟨b,0,none⟩=false):Calls ai 191 #[az (some ⟨b,0,none⟩)] w fun e w'=>e= .returned (bD #[])∧w'=w.setCell ⟨b,0,none⟩ (az (some ⟨b,0,none⟩)):=by obtain⟨j,hj,E⟩:=yB;go_enter Tryz.func191,Tryz.ntmps191;go_wp2;rw[Lib.run_to_unsafe w ⟨b,0,none⟩ B6 Ku hj (by rw[E];decide) A (Nat.zero_lt_succ 1)];simp only[nj];rw[B7];go_wp2;rw[run_callFunc_extern Tryz.func216 (by kernel_rfl) (by kernel_rfl) (by kernel_rfl) (e:=KR) (by kernel_rfl)];rw[Lib.run_noEscape];simp only[nj];rw[B7];go_wp2;rw[Lib.run_from_unsafe w ⟨b,0,none⟩ Ku B6 hj A (by kernel_rfl)];simp only[nj];rw[B7];go_wp2;go_end0;exact⟨rfl,rfl⟩
abbrev hP(B b:Nat)(bs:List Value)(w:World):Prop:=Lib.IsBuilderF 224 5 B b bs w
abbrev oK(B b:Nat)(bs:List Value)(w:World):Prop:=Lib.BuilderAtF 224 5 B b (az (some ⟨b,0,none⟩)) bs w
def jJ(B b:Nat)(w w':World):Prop:=Below B w w'∧Lib.OthersKept 5 (some b) w w'
theorem yC(B b:Nat)(bs:List Value)(w:World)(h:hP B b bs w):Calls ai 191 #[az (some ⟨b,0,none⟩)] w fun e w'=>e= .returned (bD #[])∧oK B b bs w'∧jJ B b w w':=by
 rcases h with h|h;·refine(FM b w h.cell0 h.shape h.frozen0).mono ?_;rintro e w' ⟨rfl,rfl⟩;exact⟨rfl,h.used _,(aD B w).setCell (p:=⟨b,0,none⟩) h.1 _,(Kv _ _ w).setCell ⟨b,0,none⟩ rfl _⟩
 ·refine(FL b w h.cell0).mono ?_;rintro e w' ⟨rfl,rfl⟩;exact⟨rfl,h,aD B _,Kv _ _ _⟩
theorem yD:∃A,ai.info? 5=some A∧A.zero=some (af .u8 0)∧A.size=1∧A.bytes=1:=info_parts (by kernel_rfl)
theorem Cp(B b:Nat)(bs:List Value)(c:Int)(w:World)(h:hP B b bs w)(aY:bs.length+1≤140737488355328)(aX:B≤w.heap.size):Calls ai 154 #[az (some ⟨b,0,none⟩),af .u8 c] w fun e w'=>e= .returned .nilIface∧oK B b (bs++[af .u8 c]) w'∧jJ B b w w':=by
 obtain⟨aM,aj,aG,aJ,aL⟩:=yD;go_enter Tryz.func154,Tryz.ntmps154;go_wp2_with(go_at_call 191;refine(yC B b bs _ h).mono ?_);rintro e w1 ⟨rfl,h1,E,am⟩;obtain⟨ab,v,M,Y,ax⟩:=h1;have aN:w1.cell? ⟨b,0,none⟩=some (az (some ⟨b,0,none⟩)):=by rw[oE M];rfl
 have c1:w1.cell? ⟨b,1,none⟩=some v:=by rw[oE M];rfl
 go_wp2_with(at_builtin;refine wpList_append_ownF _ rfl _ _ 222 rfl B 5 aM (af .u8 0) 1 1 Kw aj aG aJ aL rfl (by decide) _ _ _ rfl (Y.alloc _) ⟨w1.heap.size,0,none⟩ 1 1 [af .u8 c] rfl rfl ?c1 ?c2 ?c3 ?c4 ?c5 ?_)
 case c1=>
  intro j u hj
  match j,hj with
  |0,hj=>simp at hj;subst hj;simp[Addr.add]
 case c2=>intro u ad;simp at ad;subst ad;rfl
 case c3=>unfold maxLen;omega
 case c4=>omega
 case c5=>have:=E.size;simp;omega
 intro v' w2 ac O _
 have ao:b<w1.heap.size:=by
  rcases b7 b w1.heap.size with h'|h';·exact h'
  ·simp[iF h']at M
 have G:w2.heap[b]? =some (.cells #[az (some ⟨b,0,none⟩),v] 224 (0,0)):=by rw[O.block b (by simp;omega) (fun e=>ax e.symm),Lib.alloc_old w1 _ b ao];exact M
 have aP:w2.cell? ⟨b,0,none⟩=some (az (some ⟨b,0,none⟩)):=by rw[oE G];rfl
 have aQ:w2.cell? ⟨b,1,none⟩=some v:=by rw[oE G];rfl
 have aS:w2.frozen? ⟨b,1,none⟩=false:=Kx G 1
 obtain⟨g,A,rfl⟩:∃g A,v'=ag (some ⟨g,0,none⟩) (bs.length+1) A:=by
  rcases ac.2 with⟨_,aV⟩|⟨g,A,aO,aT,aB,_⟩;·omega
  ·exact⟨g,A,aB⟩
 go_wp2;go_ret;refine⟨rfl,?_,?_,((am.alloc _).grown O (Ky (Y.alloc _))).setCell ⟨b,1,none⟩ rfl _⟩;·exact Kz (T:=224) (e:=5) ab G (bs':=bs++[af .u8 c]) (by simpa using ac) (by decide)
 ·exact((E.alloc (by have:=E.size;omega) _).grown O (by have:=E.size;simp;omega) (fun k ak=>(Y.lt k ak).1)).setCell (p:=⟨b,1,none⟩) ab _
theorem Co(B b:Nat)(bs:List Value)(s:ByteArray)(w:World)(h:hP B b bs w)(aX:bs.length+s.size≤140737488355328)(aV:B≤w.heap.size):Calls ai 152 #[az (some ⟨b,0,none⟩),ah s] w fun e w'=>e= .returned (bD #[af ae s.size,.nilIface])∧oK B b (bs++Lib.strCells s) w'∧jJ B b w w':=by
 obtain⟨aM,ak,aG,aJ,aL⟩:=yD;go_enter Tryz.func152,Tryz.ntmps152;go_wp2_with(go_at_call 191;refine(yC B b bs _ h).mono ?_);rintro e w1 ⟨rfl,h1,M,ao⟩;obtain⟨ad,v,E,Y,aB⟩:=h1;have aN:w1.cell? ⟨b,0,none⟩=some (az (some ⟨b,0,none⟩)):=by rw[oE E];rfl
 have c1:w1.cell? ⟨b,1,none⟩=some v:=by rw[oE E];rfl
 go_wp2_with(at_builtin;refine Lib.wpList_append_own_stringF _ rfl _ _ 222 9 rfl B 5 aM Kw Tryz.underlying9 ak aG aJ aL _ _ _ rfl Y s rfl ?c3 ?c4 ?c5 ?_);case c3=>unfold maxLen;omega
 case c4=>omega
 case c5=>have:=M.size;omega
 intro v' w2 aj O _
 have ax:b<w1.heap.size:=by
  rcases b7 b w1.heap.size with h'|h';·exact h'
  ·simp[iF h']at E
 have A:w2.heap[b]? =some (.cells #[az (some ⟨b,0,none⟩),v] 224 (0,0)):=by rw[O.block b ax (fun e=>aB e.symm)];exact E
 have aP:w2.cell? ⟨b,0,none⟩=some (az (some ⟨b,0,none⟩)):=by rw[oE A];rfl
 have aQ:w2.cell? ⟨b,1,none⟩=some v:=by rw[oE A];rfl
 have aS:w2.frozen? ⟨b,1,none⟩=false:=Kx A 1
 obtain⟨ac,n',G,rfl⟩:∃ac n' G,v'=ag ac n' G:=by
  rcases aj.2 with⟨ab,_⟩|⟨g,G,aO,aT,ab,_⟩;·exact⟨_,_,_,ab⟩
  ·exact⟨_,_,_,ab⟩
 go_wp2;go_ret2;refine⟨rfl,?_,?_,(ao.grown O (Ky Y)).setCell ⟨b,1,none⟩ rfl _⟩;·exact Kz (T:=224) (e:=5) ad A (bs':=bs++Lib.strCells s) (by simpa[Lib.strCells_length]using aj) (by decide)
 ·exact(M.grown O (by have:=M.size;omega) (fun k am=>(Y.lt k am).1)).setCell (p:=⟨b,1,none⟩) ad _
end Go.Proofs.YtdplggpbgommnaaGreatDoor
