/- matching.price. -/
import Derived.Test.YtdplggpbgommnaaGreatDoorG03
open Array renaming getD->oC,getElem?_eq_getElem->pn,getElem?_eq_none->iF
open Bool renaming and_eq_true->cy
open Go.Act renaming put->br
open Go.Extern.AbiNoEscape renaming same->KR
open Go.IntKind renaming i64->ae
open Go.Lib renaming cell_of_heap->oE,frozen_of_heap->L4,hid->aa,ownsRowF_kind->Ky
open Go.Lib.BuilderAtF renaming put->Kz
open Go.Lib.OthersKept renaming refl->Kv
open Go.Oper renaming upon_value->B7
open Go.Proofs.Tryz renaming prog->ai,underlying221->B6,underlying222->Kw,underlying249->Cn,underlying268->Ku
open Go.Region renaming binds->oq,ready->jE,wanted->ox
open Go.Result renaming andThen->nj
open Go.RowKit.Below renaming heap_alloc->fp,heap_setCell->cH,refl->aD
open Go.Value renaming bool->ay,int->af,pointer->az,slice->ag,string->ah,tuple->bD
open Go.World renaming cell?_alloc_at->cJ,cell?_alloc_past->eg,cell?_drew->Cm,cell?_of_block->dc,cell?_setCell_other->pw,cell?_setCell_same->qF,frozen?_of_block->kG
open List renaming all_eq_true->j4,count_pos_iff->Kn,getD_eq_getElem?_getD->bb,getElem?_eq_getElem->aE,getElem?_map->jB,mem_cons->b8,mem_map->b6,mem_of_getElem?->nw,sum_cons->GS,take_add_one->j5,take_length->cP
open Nat renaming le_refl->kI,lt_or_ge->b7,strongRecOn->KT
open Option renaming toList_some->BK
open Option.some renaming injEq->aC,inj->aU
set_option maxRecDepth 100000
set_option maxHeartbeats 4000000
namespace Go.Proofs.YtdplggpbgommnaaGreatDoor
open Go.RowKit
def fe(pre:List (Int×Int)):Int×Int:=pre.getLastD (-1,-1)
def kg(x y:List aB)(pre:List (Int×Int))(p:Int×Int):Prop:=
 (fe pre).1<p.1/\(fe pre).2<p.2/\p.1<x.length/\p.2<y.length/\(nd x p.1).kind=(nd y p.2).kind/\(p=(0,0)↔pre=[])/\(p=(0,0)\/((nd x p.1).parent,(nd y p.2).parent)∈pre)
instance(x y:List aB)(pre:List (Int×Int))(p:Int×Int):Decidable (kg x y pre p):=by unfold kg;infer_instance
def gB(x y:List aB):List (Int×Int)->List (Int×Int)->Int->Option Int
 |_,[],c=>some c
 |pre,p::ps,c=>if kg x y pre p then gB x y (pre++[p]) ps (c+(cZ (nd x p.1).text (nd y p.2).text-2))else none
def dP(x y:List aB)(aR:List (Int×Int)):Option Int:=gB x y [] aR (x.length+y.length)
theorem J2{x y:List aB}{G:List (Int×Int)}{i:Nat}(h:i<G.length)(c:Int):gB x y (G.take i) (G.drop i) c=if kg x y (G.take i) G[i]then gB x y (G.take (i+1)) (G.drop (i+1)) (c+(cZ (nd x G[i].1).text (nd y G[i].2).text-2))else none:=by rw[List.drop_eq_getElem_cons h,gB,j5,aE h];rfl
theorem J3(G:List (Int×Int))(i:Nat)(h:i<G.length):fe (G.take (i+1))=G[i]:=by rw[j5,aE h];unfold fe;simp only[BK];rw[List.getLastD_concat]
theorem mM(a b:ByteArray):0<=cZ a b/\cZ a b<=1:=by unfold cZ;split<;>omega
def vz(w:World)(r:Option Int)(e:Ending)(w':World):Prop:=e= .returned (bD #[af ae (r.getD 0),ay r.isSome])/\Below w.heap.size w w'
structure qq(h:Hp)(w:World)(aR:List (Int×Int))(i:Nat)(wr:World):Prop where
 st:St w.heap.size h w h wr
 map:∃l,fy wr w.heap.size l/\∀q,fT l q=if q∈aR.take i then some (ay true)else none
 c0:wr.cell? ⟨w.heap.size+1,0,none⟩=some (af ae (fe (aR.take i)).1)
 c1:wr.cell? ⟨w.heap.size+1,1,none⟩=some (af ae (fe (aR.take i)).2)
 fz:∀i,wr.frozen? ⟨w.heap.size+1,i,none⟩=false
 sz:w.heap.size+2<=wr.heap.size
 lo: -1<=(fe (aR.take i)).1/\-1<=(fe (aR.take i)).2
theorem qq.next{h:Hp}{w:World}{J:List (Int×Int)}{j:Nat}{wr wc G aO:World}{p:Int×Int}(aL:ao h w)(P:qq h w J j wr)(am:fe (J.take (j+1))=p)(ax:∀q,q∈J.take (j+1)↔q∈J.take j\/q=p)(hp:0<=p.1/\0<=p.2)(aS:St w.heap.size h w h wc)(a1:wr.heap.size<wc.heap.size){l:List ((Int×Int)×Value)}(hf:∀q,fT l q=if q∈J.take j then some (ay true)else none)(aX:wc.heap[w.heap.size+1]? =wr.heap[w.heap.size+1]?)(aV:fy G w.heap.size (iq l p (ay true)))(ak:wc.grownBy G (some w.heap.size))(O:Below ((G.setCell ⟨w.heap.size+1,0,none⟩ (af ae p.1)).setCell ⟨w.heap.size+1,1,none⟩ (af ae p.2)).heap.size ((G.setCell ⟨w.heap.size+1,0,none⟩ (af ae p.1)).setCell ⟨w.heap.size+1,1,none⟩ (af ae p.2)) aO):qq h w J (j+1) aO:=by
 have aZ:=P.sz;have aY:=ak.size;have n0:h w.heap.size=none:=bI aL _ (kI _);have aN:h (w.heap.size+1)=none:=bI aL _ (by omega);have aP:=aS.grown ak (fun k aM=>by simp only[aC]at aM;subst aM;exact⟨kI _,n0⟩);have aQ:=(aP.setCell (p:=⟨w.heap.size+1,0,none⟩) (by show w.heap.size<=w.heap.size+1;omega) aN (af ae p.1)).setCell (p:=⟨w.heap.size+1,1,none⟩) (by show w.heap.size<=w.heap.size+1;omega) aN (af ae p.2);have Y:((G.setCell ⟨w.heap.size+1,0,none⟩ (af ae p.1)).setCell ⟨w.heap.size+1,1,none⟩ (af ae p.2)).heap.size=G.heap.size:=by simp[World.setCell]
 have aG:G.heap[w.heap.size+1]? =wr.heap[w.heap.size+1]? :=by rw[ak.block _ (by omega) (fun e=>by simp only[aC]at e;omega),aX]
 have aJ:∀i,G.cell? ⟨w.heap.size+1,i,none⟩=wr.cell? ⟨w.heap.size+1,i,none⟩:=fun i=>dc (a:=⟨w.heap.size+1,i,none⟩) aG;have aT:∀i,G.frozen? ⟨w.heap.size+1,i,none⟩=false:=fun i=>by rw[kG (a:=⟨w.heap.size+1,i,none⟩) aG];exact P.fz i
 refine⟨aQ.same O,⟨_,aV.keep ?_,fun q=> ?_⟩,?_,?_,fun i=> ?_,?_,?_⟩;·rw[O.block _ (by rw[Y];omega),cH _ _ _ _ (by show w.heap.size≠w.heap.size+1;omega),cH _ _ _ _ (by show w.heap.size≠w.heap.size+1;omega)]
 ·rw[qX,hf];by_cases ab:q=p;·rw[if_pos ab,if_pos ((ax q).2 (.inr ab))]
  ·rw[if_neg ab];by_cases aj:q∈J.take j;·rw[if_pos aj,if_pos ((ax q).2 (.inl aj))]
   ·rw[if_neg aj,if_neg (fun e=>by rcases(ax q).1 e with e|e;exact aj e;exact ab e)]
 ·rw[O.cell (by rw[Y];show w.heap.size+1<_;omega),am];have aB:=aJ 0;rw[P.c0]at aB;rw[pw _ _ _ _ (by simp)];exact qF _ _ _ aB
 ·rw[O.cell (by rw[Y];show w.heap.size+1<_;omega),am];have h1:=aJ 1;rw[P.c1]at h1;exact qF _ _ _ (by rw[pw _ _ _ _ (by simp)];exact h1)
 ·rw[O.frozen (by rw[Y];show w.heap.size+1<_;omega)];simp[aT]
 ·have:=O.size;rw[Y]at this;omega
 ·rw[am];omega
theorem Eo(h:Hp)(w:World)(aJ:ao h w)(cu cv ct:Value)(x y:List aB)(G:List (Int×Int))(hx:gy h cu x)(hy:gy h cv y)(dp:0<x.length)(dr:0<y.length)(ep:x.length<=1000000000)(er:y.length<=1000000000)(hp:jp h ct G):Calls ai 151 #[cu,cv,ct] w (vz w (dP x y G)):=by
 obtain⟨bx,en,d5,rfl,ej,ch⟩:=hx.gA dp;obtain⟨b9,eo,d6,rfl,em,cj⟩:=hy.gA dr;obtain⟨ap,cp,rfl,ec,aZ⟩:=hp.open;have cB:=aa (fun w' aJ=>ch w' aJ);have cC:=aa (fun w' aJ=>cj w' aJ);have cw:=aa (fun w' aJ=>aZ w' aJ);have cz:=aa hp.2;have ba:=aa aJ;clear hx hy ch cj hp aZ aJ;have eb:∀W:World,(Instr.makeMap 249 none).run ai W= .ok (.map (some W.heap.size)) (W.alloc (.map #[] 0)):=fun W=>rfl;go_in;go_wp2_with fail
 have bR:qq h w G 0 ((w.alloc (.map #[] 0)).alloc (.cells #[af ae (-1),af ae (-1)] 79)):=by
  refine⟨((St.refl ba.out).alloc _).alloc _,⟨[],(th w).keep (fp _ _ _ (by simp)),by simp[fT]⟩,?_,?_,?_,by simp,?_⟩;·rw[cJ _ _ _ _ (by simp)];rfl
  ·rw[cJ _ _ _ _ (by simp)];rfl
  ·intro i;exact World.frozen?_alloc_at _ _ _ _ (by simp)
  ·simp[fe]
 have cD:=aa bR;clear bR;go_loopw[8,25] (fun c i wr=>∃(j:Nat) (z:Int),j<=G.length/\i=af ae j/\c=af ae z/\(-2*(j:Int)<=z/\z<=2000000000)/\qq h w G j wr/\Hid (gB x y (G.take j) (G.drop j) z=dP x y G)) (fun _ i _=>G.length-(intOf i).toNat);case atStart=>exact⟨0,_,Nat.zero_le _,rfl,rfl,by omega,cD.out,rfl⟩
 case round=>
  obtain⟨j,z,hj,rfl,rfl,hz,P,R⟩:=hrel;by_cases a4:j<G.length
  ·obtain⟨b,off,rfl,d8,aZ⟩:=cw.out wr P.st.I (by omega);obtain⟨d0,cN⟩:=aZ j a4;obtain⟨c9,dg⟩:=cz.out G[j] (by simp);have bm:=aa (J2 (x:=x) (y:=y) a4 z);have bN:=aa (J3 G j a4);have cG:=P.c0;have c1:=P.c1;have sz:w.heap.size+1<wr.heap.size:=by have:=P.sz;omega
   have ey:w.heap.size<wr.heap.size:=by omega
   have Y:=aa P;have bO:Hid (∀q,q∈G.take (j+1)↔q∈G.take j\/q=G[j]):=fun q=>by rw[j5,aE a4];simp only[BK,List.mem_append,List.mem_singleton]
   have a3:Hid (G.take j=[]↔j=0):=by
    unfold Hid;constructor;·intro e;have:=congrArg List.length e;rw[List.length_take,List.length_nil]at this;omega
    ·rintro rfl;rfl
   generalize G[j]=p at*;have bJ:Hid (¬kg x y (G.take j) p->dP x y G=none):=fun hn=>by rw[<-R.out,bm.out,if_neg hn]
   generalize ce:fe (G.take j)=L at*;have aL:=aa ce;unfold aG at c9 dg;clear aZ P ce;have a2:Hid (∀(X:Obj) n,¬kg x y (G.take j) p->vz w (dP x y G) (.returned (bD #[af ae 0,ay false])) ((wr.alloc X).drewN n)):=fun X n hn=>by rw[bJ.out hn];exact⟨rfl,(Y.out.st.below.alloc Y.out.st.size _).drewN n⟩
   by_cases h1:p.1<=L.1;·go_wp2_with fail;go_ret2;exact a2.out _ 0 (fun ok=>by have:=ok.1;rw[aL.out]at this;omega)
   have cc:L.1<p.1:=by omega
   by_cases h2:p.2<=L.2;·go_wp2_with fail;go_ret2;exact a2.out _ 0 (fun ok=>by have:=ok.2.1;rw[aL.out]at this;omega)
   have cd:L.2<p.2:=by omega
   by_cases cU:(x.length:Int)<=p.1;·go_wp2_with fail;go_ret2;exact a2.out _ 0 (fun ok=>by have:=ok.2.2.1;omega)
   have bC:p.1<x.length:=by omega
   by_cases cV:(y.length:Int)<=p.2;·go_wp2_with fail;go_ret2;exact a2.out _ 0 (fun ok=>by have:=ok.2.2.2.1;omega)
   have bE:p.2<y.length:=by omega
   have d7: -1<=L.1/\-1<=L.2:=by have:=Y.out.lo;rw[aL.out]at this;exact this
   have bG:0<=p.1:=by omega
   have bH:0<=p.2:=by omega
   obtain⟨d9,cg⟩:=cB.out wr Y.out.st.I;obtain⟨ea,ci⟩:=cC.out wr Y.out.st.I;obtain⟨cE,cK,dT,dU,dW,dX,dY,-,ez,eA,eB⟩:=cg p.1 bG bC;obtain⟨cF,cM,dZ,d1,d2,d3,d4,-,eC,eD,eE⟩:=ci p.2 bH bE;clear cg ci h1 h2 cU cV;have ed:bx<wr.heap.size+1:=by omega
   have ei:bx<wr.heap.size+1+1:=by omega
   have ek:b9<wr.heap.size+1:=by omega
   have el:b9<wr.heap.size+1+1:=by omega
   go_upto_region 9 with fail
   go_cut[13,14] (fun du dv O=>∃ga ab:Nat,du=az (some ⟨ga,0,none⟩)/\dv=az (some ⟨ab,0,none⟩)/\(St w.heap.size h w h O/\O.heap[w.heap.size]? =wr.heap[w.heap.size]?/\O.heap[w.heap.size+1]? =wr.heap[w.heap.size+1]?/\wr.heap.size<O.heap.size/\ga<O.heap.size/\ab<O.heap.size/\wr.heap.size<ga/\wr.heap.size<ab/\
    O.cell? ⟨wr.heap.size,0,none⟩=some (af ae p.1)/\O.cell? ⟨wr.heap.size,1,none⟩=some (af ae p.2))/\
    (O.cell? ⟨ga,0,none⟩=some (af ae (nd x p.1).kind)/\O.cell? ⟨ga,1,none⟩=some (ah (nd x p.1).text)/\O.cell? ⟨ga,2,none⟩=some (af ae (nd x p.1).parent)/\O.cell? ⟨ga,3,none⟩=some (ag cE (nd x p.1).kids.length cK)/\O.cell? ⟨ga,4,none⟩=some (af ae (nd x p.1).size))/\
    O.cell? ⟨ab,0,none⟩=some (af ae (nd y p.2).kind)/\O.cell? ⟨ab,1,none⟩=some (ah (nd y p.2).text)/\O.cell? ⟨ab,2,none⟩=some (af ae (nd y p.2).parent)/\O.cell? ⟨ab,3,none⟩=some (ag cF (nd y p.2).kids.length cM)/\O.cell? ⟨ab,4,none⟩=some (af ae (nd y p.2).size))
   case first=>
    go_region
    all_goals
     go_wp2_with fail;go_meet;refine⟨_,_,rfl,rfl,⟨(((Y.out.st.alloc _).alloc _).alloc _).drew,?_,?_,?_,?_,?_,?_,?_,?_,?_⟩,⟨?_,?_,?_,?_,?_⟩,?_,?_,?_,?_,?_⟩;·show((((wr.alloc _).alloc _).alloc _).heap)[w.heap.size]? =_;rw[fp _ _ _ (by simp;omega),fp _ _ _ (by simp;omega),fp _ _ _ (by omega)]
     ·show((((wr.alloc _).alloc _).alloc _).heap)[w.heap.size+1]? =_;rw[fp _ _ _ (by simp;omega),fp _ _ _ (by simp;omega),fp _ _ _ (by omega)]
     all_goals first
      |omega
      |(simp;done)
      |(simp;omega)
      |(simp;done)
      |(rw[Cm,cJ _ _ _ _ (by simp)];rfl)
      |(rw[Cm,eg _ _ _ (by simp),cJ _ _ _ _ (by simp)];rfl)
      |(rw[Cm,eg _ _ _ (by simp;omega),eg _ _ _ (by simp),cJ _ _ _ _ rfl];rfl)
   case rest=>
    obtain⟨ga,ab,rfl,rfl,⟨bS,cn,cl,aQ,am,ax,eF,eG,co,cq⟩,⟨a0,bT,bV,bX,bY⟩,bZ,b1,b2,b3,b0⟩:=hcut;have bz:=aa bS;have a1:Hid (¬kg x y (G.take j) p->vz w (dP x y G) (.returned (bD #[af ae 0,ay false])) wc):=fun hn=>by rw[bJ.out hn];exact⟨rfl,bz.out.below⟩
    have bp:=aa cn;have aP:=aa cl;clear bS cn cl dT dU dW dX dY dZ d1 d2 d3 d4 cG c1 d0 cN;by_cases aX:(nd x p.1).kind=(nd y p.2).kind;case neg=>have cY:=q0 aX;go_wp2_with fail;go_ret2;exact a1.out (fun ok=>aX ok.2.2.2.2.1)
    have cY:=Lm aX;have bL:=aa aX;clear aX;by_cases hr:p=(0,0)
    ·have r1:(p.1==0)=true:=by rw[hr];rfl
     have r2:(p.2==0)=true:=by rw[hr];rfl
     have aM:=aa hr;clear hr;by_cases aj:j=0;case neg=>have bI:((j:Int)==0)=false:=wX aj;have aS:Hid (j≠0):=aj;clear aj;go_wp2_with fail;go_ret2;exact a1.out (fun ok=>aS.out (a3.out.1 (ok.2.2.2.2.2.1.1 aM.out)))
     have bI:((j:Int)==0)=true:=wW aj;have bg:Hid (kg x y (G.take j) p):=⟨by rw[aL.out];exact cc,by rw[aL.out];exact cd,bC,bE,bL.out,⟨fun _=>a3.out.2 aj,fun _=>aM.out⟩,.inl aM.out⟩
     clear aj;obtain⟨cm,aO,aN⟩:=Y.out.map;obtain⟨aT,c8,aY,J⟩:=(aO.keep bp.out).qZ p (ay true) 249 4 Cn;have dE:=(J.cellOf (i:=0) aQ (by simp only[ne_eq,aC];omega)).1.trans co;have dF:=(J.cellOf (i:=1) aQ (by simp only[ne_eq,aC];omega)).1.trans cq;have v0:=(J.cellOf (i:=0) am (by simp only[ne_eq,aC];omega)).1.trans a0;have dG:=(J.cellOf (i:=1) am (by simp only[ne_eq,aC];omega)).1.trans bT;have dN:=(J.cellOf (i:=2) am (by simp only[ne_eq,aC];omega)).1.trans bV;have dO:=(J.cellOf (i:=3) am (by simp only[ne_eq,aC];omega)).1.trans bX;have dQ:=(J.cellOf (i:=4) am (by simp only[ne_eq,aC];omega)).1.trans bY;have dw:=(J.cellOf (i:=0) ax (by simp only[ne_eq,aC];omega)).1.trans bZ;have dA:=(J.cellOf (i:=1) ax (by simp only[ne_eq,aC];omega)).1.trans b1;have dB:=(J.cellOf (i:=2) ax (by simp only[ne_eq,aC];omega)).1.trans b2;have dC:=(J.cellOf (i:=3) ax (by simp only[ne_eq,aC];omega)).1.trans b3;have dD:=(J.cellOf (i:=4) ax (by simp only[ne_eq,aC];omega)).1.trans b0;have ak:∀i,aT.cell? ⟨w.heap.size+1,i,none⟩=wr.cell? ⟨w.heap.size+1,i,none⟩/\aT.frozen? ⟨w.heap.size+1,i,none⟩=false:=fun i=>by obtain⟨bA,bB⟩:=J.cellOf (b:=w.heap.size+1) (i:=i) (by omega) (by simp only[ne_eq,aC];omega);exact⟨bA.trans (dc (a:=⟨w.heap.size+1,i,none⟩) aP.out),by rw[bB,kG (a:=⟨w.heap.size+1,i,none⟩) aP.out];exact Y.out.fz i⟩
     have s0:=(ak 0).1.trans Y.out.c0;have dt:=(ak 1).1.trans Y.out.c1;have cQ:=(ak 0).2;have cS:=(ak 1).2;have dh:w.heap.size+1≠ga:=by omega
     have di:w.heap.size+1≠ab:=by omega
     have dk:ga≠w.heap.size+1:=by omega
     have dm:ab≠w.heap.size+1:=by omega
     have dn:wr.heap.size≠w.heap.size+1:=by omega
     have bd:=aa aY;have a9:=aa J;have a8:=aa aN;have cX:=mM (nd x p.1).text (nd y p.2).text;clear aY J ak aO aN;go_wp2_with fail;refine(Ln _ _ _ _ _ _ _ _ _ _ _ _ _ _ _).mono ?_;rintro e dR ⟨rfl,aV⟩;have bq:=aa (Y.out.next ba.out bN.out bO.out ⟨bG,bH⟩ bz.out aQ a8.out aP.out bd.out a9.out aV);have bv:Hid (gB x y (G.take (j+1)) (G.drop (j+1)) (z+(cZ (nd x p.1).text (nd y p.2).text-2))=dP x y G):=by unfold Hid;rw[<-R.out,bm.out,if_pos bg.out]
     clear aV;go_wp2_with fail;go_roundw;case rel=>exact⟨j+1,_,by omega,by go_num,rfl,by omega,bq.out,bv⟩
     case measure=>simp[intOf];omega
    ·have r0:(p.1==0&&p.2==0)=false:=by rw[Bool.eq_false_iff];intro e;simp only[cy,beq_iff_eq]at e;exact hr (Prod.ext e.1 e.2)
     have aM:Hid (p≠(0,0)):=hr;clear hr;by_cases aj:j=0;·have bI:((j:Int)==0)=true:=wW aj;have aS:Hid (j=0):=aj;clear aj;go_wp2_with fail;go_ret2;exact a1.out (fun ok=>aM.out (ok.2.2.2.2.2.1.2 (a3.out.2 aS.out)))
     have bI:((j:Int)==0)=false:=wX aj;have aS:Hid (j≠0):=aj;clear aj
     have c6:Hid (∀q:Int×Int,(Instr.lookup 249 (.map (some w.heap.size)) (.agg #[af ae q.1,af ae q.2]) false).run ai wc= .ok (ay (decide (q∈G.take j))) wc):=fun q=>by
      obtain⟨cm,aO,aN⟩:=Y.out.map;have:=aO.look q 249 4 (ay false) Cn (fun _=>by kernel_rfl) wc bp.out;rw[this,aN q];by_cases a5:q∈G.take j;·rw[if_pos a5,decide_eq_true a5];rfl
      ·rw[if_neg a5,decide_eq_false a5];rfl
     have cf:=c6.out ((nd x p.1).parent,(nd y p.2).parent);by_cases hs:((nd x p.1).parent,(nd y p.2).parent)∈G.take j;case neg=>rw[decide_eq_false hs]at cf;have cA:Hid (((nd x p.1).parent,(nd y p.2).parent)∉G.take j):=hs;clear hs;go_wp2_with fail;go_ret2;exact a1.out (fun ok=>by rcases ok.2.2.2.2.2.2 with e|e;exact aM.out e;exact cA.out e)
     rw[decide_eq_true hs]at cf;have bg:Hid (kg x y (G.take j) p):=⟨by rw[aL.out];exact cc,by rw[aL.out];exact cd,bC,bE,bL.out,⟨fun e=>absurd e aM.out,fun e=>absurd (a3.out.1 e) aS.out⟩,.inr hs⟩
     clear hs;obtain⟨cm,aO,aN⟩:=Y.out.map;obtain⟨aT,c8,aY,J⟩:=(aO.keep bp.out).qZ p (ay true) 249 4 Cn;have dE:=(J.cellOf (i:=0) aQ (by simp only[ne_eq,aC];omega)).1.trans co;have dF:=(J.cellOf (i:=1) aQ (by simp only[ne_eq,aC];omega)).1.trans cq;have v0:=(J.cellOf (i:=0) am (by simp only[ne_eq,aC];omega)).1.trans a0;have dG:=(J.cellOf (i:=1) am (by simp only[ne_eq,aC];omega)).1.trans bT;have dN:=(J.cellOf (i:=2) am (by simp only[ne_eq,aC];omega)).1.trans bV;have dO:=(J.cellOf (i:=3) am (by simp only[ne_eq,aC];omega)).1.trans bX;have dQ:=(J.cellOf (i:=4) am (by simp only[ne_eq,aC];omega)).1.trans bY;have dw:=(J.cellOf (i:=0) ax (by simp only[ne_eq,aC];omega)).1.trans bZ;have dA:=(J.cellOf (i:=1) ax (by simp only[ne_eq,aC];omega)).1.trans b1;have dB:=(J.cellOf (i:=2) ax (by simp only[ne_eq,aC];omega)).1.trans b2;have dC:=(J.cellOf (i:=3) ax (by simp only[ne_eq,aC];omega)).1.trans b3;have dD:=(J.cellOf (i:=4) ax (by simp only[ne_eq,aC];omega)).1.trans b0;have ak:∀i,aT.cell? ⟨w.heap.size+1,i,none⟩=wr.cell? ⟨w.heap.size+1,i,none⟩/\aT.frozen? ⟨w.heap.size+1,i,none⟩=false:=fun i=>by obtain⟨bA,bB⟩:=J.cellOf (b:=w.heap.size+1) (i:=i) (by omega) (by simp only[ne_eq,aC];omega);exact⟨bA.trans (dc (a:=⟨w.heap.size+1,i,none⟩) aP.out),by rw[bB,kG (a:=⟨w.heap.size+1,i,none⟩) aP.out];exact Y.out.fz i⟩
     have s0:=(ak 0).1.trans Y.out.c0;have dt:=(ak 1).1.trans Y.out.c1;have cQ:=(ak 0).2;have cS:=(ak 1).2;have dh:w.heap.size+1≠ga:=by omega
     have di:w.heap.size+1≠ab:=by omega
     have dk:ga≠w.heap.size+1:=by omega
     have dm:ab≠w.heap.size+1:=by omega
     have dn:wr.heap.size≠w.heap.size+1:=by omega
     have bd:=aa aY;have a9:=aa J;have a8:=aa aN;have cX:=mM (nd x p.1).text (nd y p.2).text;clear aY J ak aO aN;go_wp2_with fail;refine(Ln _ _ _ _ _ _ _ _ _ _ _ _ _ _ _).mono ?_;rintro e dR ⟨rfl,aV⟩;have bq:=aa (Y.out.next ba.out bN.out bO.out ⟨bG,bH⟩ bz.out aQ a8.out aP.out bd.out a9.out aV);have bv:Hid (gB x y (G.take (j+1)) (G.drop (j+1)) (z+(cZ (nd x p.1).text (nd y p.2).text-2))=dP x y G):=by unfold Hid;rw[<-R.out,bm.out,if_pos bg.out]
     clear aV;go_wp2_with fail;go_roundw;case rel=>exact⟨j+1,_,by omega,by go_num,rfl,by omega,bq.out,bv⟩
     case measure=>simp[intOf];omega
  ·obtain rfl:j=G.length:=by omega
   go_wp2_with fail;go_ret2;have:dP x y G=some z:=by have:=R.out;rw[List.drop_length,gB]at this;exact this.symm
   rw[this];exact⟨rfl,P.st.below⟩
def bG(es:List dY)(q:Int×Int):Int:=match es.find? (fun e=>decide ((e.a,e.b)=q))with|some e=>e.cost|none=>0
def ju(x y:List aB)(p:Int×Int)(dm:Int×Int->Int):jr:=e0 (bL x p.1) (bL y p.2) (eA x y p dm)
def hT(x y:List aB)(p:Int×Int)(dm:Int×Int->Int):dY:=⟨p.1,p.2,cZ (nd x p.1).text (nd y p.2).text+(ju x y p dm).cost,ju x y p dm⟩
def aQ(x y:List aB):List (Int×Int)->List dY
 |[]=>[]
 |p::ps=>hT x y p (bG (aQ x y ps))::aQ x y ps
theorem ra(e:dY)(es:List dY)(q:Int×Int):bG (e::es) q=if q=(e.a,e.b)then e.cost else bG es q:=by
 unfold bG;by_cases h:(e.a,e.b)=q;·rw[List.find?_cons_of_pos (by simpa using h),if_pos h.symm]
 ·rw[List.find?_cons_of_neg (by simpa using h),if_neg (fun e=>h e.symm)]
theorem xD{l:List Int}(h:∀q∈l,0<=q):0<=l.sum:=by
 induction l with
 |nil=>simp
 |cons a l J=>rw[GS];have:=h a (by simp);have:=J (fun q G=>h q (by simp[G]));omega
theorem D7{l:List Int}(h:∀q∈l,0<=q){a:Int}(ha:a∈l):a<=l.sum:=by
 induction l with
 |nil=>simp at ha
 |cons b l J=>
  rw[GS];have h1:=h b (by simp);have h2:=xD (fun q G=>h q (List.mem_cons_of_mem _ G));rcases b8.1 ha with rfl|ha;·omega
  ·have:=J (fun q G=>h q (by simp[G])) ha;omega
theorem mL{x:List aB}(hx:WF x){i:Int}(G:0<=i)(h1:i<x.length):(nd x i).size=1+((nd x i).kids.map fun c=>(nd x c).size).sum:=hx.sz i.toNat _ (gV G h1)
theorem size_pos{x:List aB}(hx:WF x):∀(n:Nat) (i:Int),0<=i->i<x.length->(x.length:Int)-i<=n->1<=(nd x i).size:=by
 intro n;induction n with
 |zero=>intro i G h1 h2;omega
 |succ n ab=>
  intro i G h1 h2;rw[mL hx G h1];have:=xD (l:=(nd x i).kids.map fun c=>(nd x c).size) (fun q Y=>by obtain⟨c,hc,rfl⟩:=b6.1 Y;obtain⟨J,O,aj,_⟩:=eK hx G h1 hc;have:=ab c J O (by omega);omega)
  omega
theorem nP{x:List aB}(hx:WF x){i:Int}(G:0<=i)(h1:i<x.length):1<=(nd x i).size:=size_pos hx x.length i G h1 (by omega)
theorem size_le{x:List aB}(hx:WF x):∀(n:Nat) (i:Int),0<=i->i<x.length->i<=n->(nd x i).size<=x.length:=by
 intro n;induction n using KT with
 |_ n ak=>
  intro i J h1 h2;by_cases hz:i=0;·subst hz;have:=hx.kS;simpa[nd]using Int.le_of_eq this
  ·obtain⟨j,ao,g1,g2,_,G⟩:=hx.par i.toNat _ (gV J h1) (by omega);have am:=tx g1;have ab:i∈(nd x (j:Int)).kids:=by rw[nL g1];rw[Int.toNat_of_nonneg J]at G;exact G
   have hj:=ak j (by omega) (j:Int) (by omega) (by omega) (by omega);have hs:=mL hx (i:=(j:Int)) (by omega) (by omega);have hm:=D7 (l:=(nd x (j:Int)).kids.map fun c=>(nd x c).size) (fun q aj=>by obtain⟨c,hc,rfl⟩:=b6.1 aj;obtain⟨O,Y,_,_⟩:=eK hx (by omega) (by omega) hc;have:=nP hx O Y;omega) (b6.2 ⟨i,ab,rfl⟩)
   omega
theorem D8{drop add:List Int}{cost:List (List Int)}(_p:lS drop add cost):∀(i j:Nat),pt drop add cost i j<=(drop.take i).sum+(add.take j).sum:=by
 have J:∀(l:List Int) (k:Nat),(l.take (k+1)).sum=(l.take k).sum+l.getD k 0:=by
  intro l k;rw[j5,List.sum_append];cases h:l[k]?with
  |none=>simp[bb,h]
  |some v=>simp[bb,h]
 intro i;induction i with
 |zero=>
  intro j;induction j with
  |zero=>simp[pt,lR]
  |succ j G=>rw[J];have:pt drop add cost 0 (j+1)=pt drop add cost 0 j+add.getD j 0:=rfl;omega
 |succ i G=>
  intro j;cases j with
  |zero=>rw[oV,J];have:=G 0;omega
  |succ j=>
   rw[oU,J drop];have:=G (j+1);split;·omega
   ·omega
structure tN(x y:List aB)(e:dY):Prop where
 inr:bZ x y (e.a,e.b)
 lo:0<=e.cost
 hi:e.cost<=(nd x e.a).size+(nd y e.b).size
theorem tO{x y:List aB}(hx:WF x)(hy:WF y)(G:x.length<=262144)(J:y.length<=262144){es:List dY}(h:∀e∈es,tN x y e)(q:Int×Int):0<=bG es q/\bG es q<=524288:=by
 unfold bG;split;·rename_i e he;have ok:=h e (List.mem_of_find?_eq_some he);have h1:=size_le hx x.length e.a ok.inr.1 ok.inr.2.1 (by have:=ok.inr.2.1;simp only at this;omega);have h2:=size_le hy y.length e.b ok.inr.2.2.1 ok.inr.2.2.2 (by have:=ok.inr.2.2.2;simp only at this;omega);have:=ok.lo;have:=ok.hi;omega
 ·omega
def ct(l:List aB):Bool:=decide (l.length<=262144)&&l.all fun n=>decide (n.kids.length<=400)
theorem xE{l:List aB}(h:ct l=true)(i:Int):(nd l i).kids.length<=400:=by
 unfold ct at h;simp only[cy,decide_eq_true_eq,j4]at h;unfold nd;rw[bb];cases hg:l[i.toNat]?with
 |none=>simp[default]
 |some v=>exact h.2 v (nw hg)
theorem tP{x y:List aB}(hx:WF x)(hy:WF y)(nx:ct x=true)(Y:ct y=true){p:Int×Int}(hp:bZ x y p)(ab:Int×Int->Int)(hd:∀q,0<=ab q/\ab q<=524288):lS (bL x p.1) (bL y p.2) (eA x y p ab):=by
 have aj:x.length<=262144:=by unfold ct at nx;simp only[cy,decide_eq_true_eq]at nx;exact nx.1
 have ak:y.length<=262144:=by unfold ct at Y;simp only[cy,decide_eq_true_eq]at Y;exact Y.1
 refine⟨by simpa[bL]using xE nx p.1,by simpa[bL]using xE Y p.2,by simp[eA,bL],fun i h=>by simp[eA,bL],?_,?_,?_⟩;·intro q G;obtain⟨c,hc,rfl⟩:=b6.1 G;obtain⟨J,O,_,_⟩:=eK hx hp.1 hp.2.1 hc;have:=nP hx J O;have:=size_le hx x.length c J O (by omega);omega
 ·intro q G;obtain⟨c,hc,rfl⟩:=b6.1 G;obtain⟨J,O,_,_⟩:=eK hy hp.2.2.1 hp.2.2.2 hc;have:=nP hy J O;have:=size_le hy y.length c J O (by omega);omega
 ·intro i h q G;simp only[eA,List.getElem_map,b6]at G;obtain⟨k,_,rfl⟩:=G;split;·have:=hd (((nd x p.1).kids[i]'(by simpa[eA]using h)),k);omega
  ·omega
theorem D9{x y:List aB}(hx:WF x)(hy:WF y){p:Int×Int}(hp:bZ x y p)(G:Int×Int->Int)(h:lS (bL x p.1) (bL y p.2) (eA x y p G)):tN x y (hT x y p G):=by
 have h1:=mK h (bL x p.1).length (bL y p.2).length;have h2:=D8 h (bL x p.1).length (bL y p.2).length;rw[cP,cP]at h2;have J:=mM (nd x p.1).text (nd y p.2).text;have O:=mL hx hp.1 hp.2.1;have Y:=mL hy hp.2.2.1 hp.2.2.2;refine⟨hp,?_,?_⟩;·simp only[hT,ju,e0];omega
 ·simp only[hT,ju,e0];unfold bL at h2;unfold bL;omega
theorem tQ{x y:List aB}(hx:WF x)(hy:WF y)(nx:ct x=true)(G:ct y=true):∀(l:List (Int×Int)),(∀p∈l,bZ x y p)->∀e∈aQ x y l,tN x y e
 |[],_,e,he=>by simp[aQ]at he
 |p::ps,h,e,he=>by
  have Y:x.length<=262144:=by unfold ct at nx;simp only[cy,decide_eq_true_eq]at nx;exact nx.1
  have ab:y.length<=262144:=by unfold ct at G;simp only[cy,decide_eq_true_eq]at G;exact G.1
  have J:=tQ hx hy nx G ps (fun q O=>h q (by simp[O]));rw[aQ]at he;rcases b8.1 he with rfl|he;·exact D9 hx hy (h p (by simp)) _ (tP hx hy nx G (h p (by simp)) _ (tO hx hy Y ab J))
  ·exact J e he
def bk:Value->Option Nat
 | ag (some a) _ _=>some a.block
 | az (some a)=>some a.block
 |_=>none
def jv:List Oper->(Nat->Value)->Nat->Act->Act
 |[],_,_,a=>a
 |o::r,x,n,a=>jv r x (n+1) (a.put o.dst (x n))
structure x5(P:Program)(ops:Array Oper)(F:Nat->(Nat->Value)->Value->World->Prop)(R:World->Prop)(N:Nat->Prop)(a0:Act)(l:Array Bool)(x:Nat->Value)(a:Act)(w:World):Prop where
 ui:l.size=ops.size
 sz:a.tmps.size=a0.tmps.size
 df:a.defers=a0.defers
 keep:∀k,(∀(j:Nat) (o:Oper),ops[j]? =some o->o.dst=some k->l.getD j false=false)->a.tmps[k]? =a0.tmps[k]?
 got:∀(j:Nat) (o:Oper) (d:Tmp),ops[j]? =some o->o.dst=some d->l.getD j false=true->a.tmps[d]? =some (x j)
 x6:∀(j:Nat) (o:Oper),ops[j]? =some o->l.getD j false=true->∀e∈o.after,oq .any e=true->l.getD e.on false=true
 fact:∀j,j<ops.size->l.getD j false=true->F j x (x j) w
 lt:∀j,N j->l.getD j false=true->∀g,bk (x j)=some g->g<w.heap.size
 apart:∀i j,N i->N j->i≠j->l.getD i false=true->l.getD j false=true->∀g,bk (x i)=some g->bk (x j)≠some g
 r:R w
theorem uk{l:Array Bool}{i:Nat}(h:l.getD i true=false):i<l.size:=by
 rcases b7 i l.size with q|q;·exact q
 ·simp[oC,Nat.not_lt.2 q]at h
theorem E0{l:Array Bool}{i:Nat}(h:l.getD i true=false):l.getD i false=false:=by have:=uk h;simp only[oC,this,dif_pos]at h⊢;exact h
theorem E1(l:Array Bool)(i j:Nat)(G:i<l.size):(l.setIfInBounds i true).getD j false=if i=j then true else l.getD j false:=by
 by_cases e:i=j;·subst e;simp[oC,G]
 ·rw[if_neg e];simp only[oC,Array.size_setIfInBounds];by_cases h:j<l.size;·simp only[h,dif_pos];exact Array.getElem_setIfInBounds_ne h e
  ·simp only[h,dif_neg,not_false_eq_true]
theorem p4(a:Act)(d k:Nat)(v:Value):(a.put (some d) v).tmps[k]? =if d=k then(if d<a.tmps.size then some v else none)else a.tmps[k]? :=by
 unfold br;by_cases e:d=k;·subst e;by_cases h:d<a.tmps.size<;>simp[h]
 ·simp[e]
theorem x7:∀(l:List Oper) (x:Nat->Value) (n:Nat) (a:Act),(jv l x n a).tmps.size=a.tmps.size/\(jv l x n a).defers=a.defers
 |[],_,_,_=>⟨rfl,rfl⟩
 |o::r,x,n,a=>by obtain⟨h1,h2⟩:=x7 r x (n+1) (a.put o.dst (x n));unfold jv;rw[h1,h2];cases o.dst<;>simp[br]
theorem x8:∀(l:List Oper) (x:Nat->Value) (n:Nat) (a:Act) (k:Nat),((∀(j:Nat) (o:Oper),l[j]? =some o->o.dst≠some k)->(jv l x n a).tmps[k]? =a.tmps[k]?)/\(∀(j:Nat) (o:Oper),l[j]? =some o->o.dst=some k->(∀(i:Nat) (G:Oper),l[i]? =some G->i≠j->G.dst≠some k)->k<a.tmps.size->(jv l x n a).tmps[k]? =some (x (n+j)))
 |[],_,_,_,_=>⟨fun _=>rfl,fun j o h=>by simp at h⟩
 |o::r,x,n,a,k=>by
  obtain⟨h1,h2⟩:=x8 r x (n+1) (a.put o.dst (x n)) k;unfold jv;refine⟨fun h=> ?_,fun j G hj hd ab Y=> ?_⟩
  ·rw[h1 fun j G hj=>h (j+1) G (by simpa using hj)];have:=h 0 o (by simp);cases hd:o.dst with
   |none=>rfl
   |some d=>rw[p4,if_neg (fun e=>this (by rw[hd,e]))]
  ·cases j with
   |zero=>simp only[List.getElem?_cons_zero,aC]at hj;subst hj;rw[h1 fun i O J=>ab (i+1) O (by simpa using J) (by omega),hd,p4,if_pos rfl,if_pos Y];rfl
   |succ j=>have:=h2 j G (by simpa using hj) hd (fun i O J aj=>ab (i+1) O (by simpa using J) (by omega)) (by cases o.dst<;>simp[br,Y]);rw[this,show n+1+j=n+(j+1) by omega]
section
variable {P:Program} {ops:Array Oper} {Q:Exit->Act->World->Prop} {F:Nat->(Nat->Value)->Value->World->Prop} {R:World->Prop} {N:Nat->Prop} {a0:Act}
theorem E2(bB:∀i x v w w',F i x v w->Below w.heap.size w w'->F i x v w')(hF:∀(i:Nat) (o:Oper),ops[i]? =some o->∀x bd v w,(∀e∈o.after,oq .any e=true->x e.on=bd e.on)->F i x v w->F i bd v w)(bv:∀(i:Nat) (o:Oper),ops[i]? =some o->o.guard=none)(hd:∀(i:Nat) (o:Oper),ops[i]? =some o->∃d,o.dst=some d/\d<a0.tmps.size)(ba:∀(i j:Nat) (o Y:Oper) (d:Tmp),ops[i]? =some o->ops[j]? =some Y->o.dst=some d->Y.dst=some d->i=j)
  (hstep:∀(i:Nat) (o:Oper),ops[i]? =some o->∀x a w,R w->a.tmps.size=a0.tmps.size->(∀k,(∀(j:Nat) (Y:Oper),ops[j]? =some Y->Y.dst≠some k)->a.tmps[k]? =a0.tmps[k]?)->
   (∀e∈o.after,oq .any e=true->∀(oj:Oper) (d:Tmp),ops[e.on]? =some oj->oj.dst=some d->a.tmps[d]? =some (x e.on)/\F e.on x (x e.on) w)->
   ∀aS:Act->World->Prop,(∀v w',F i x v w'->Below w.heap.size w w'->R w'->(N i->∀g,bk v=some g->w.heap.size<=g/\g<w'.heap.size)->aS (a.put o.dst v) w')->o.wp P a w aS Q)
  (hend:∀x w,R w->(∀i,i<ops.size->F i x (x i) w)->(∀i j,i<ops.size->j<ops.size->N i->N j->i≠j->∀g,bk (x i)=some g->bk (x j)≠some g)->Q .normal (jv ops.toList x 0 a0) w)
  (bq:∀l:Array Bool,l.size=ops.size->jE .any ops l=[]->∀i,i<ops.size->l.getD i false=true):
  ∀(f:Nat) (l:Array Bool) (x:Nat->Value) (a:Act) (w:World),l.toList.count false<=f->x5 P ops F R N a0 l x a w->wpAny P .any ops Q f l a w:=by
 have a4:∀(l:Array Bool) (x:Nat->Value) (a:Act) (w:World),x5 P ops F R N a0 l x a w->jE .any ops l=[]->Q .normal a w:=by
  intro l x a w G hr;have aJ:=bq l G.ui hr
  have ha:a=jv ops.toList x 0 a0:=by
   obtain⟨bJ,bH⟩:=x7 ops.toList x 0 a0
   have a3:a.tmps=(jv ops.toList x 0 a0).tmps:=by
    apply Array.ext_getElem?;intro k;obtain⟨g1,g2⟩:=x8 ops.toList x 0 a0 k;by_cases ao:∃(j:Nat) (o:Oper),ops[j]? =some o/\o.dst=some k
    ·obtain⟨j,o,J,aV⟩:=ao
     have bz:j<ops.size:=by
      rcases b7 j ops.size with q|q;·exact q
      ·rw[iF q]at J;cases J
     obtain⟨d,ak,a1⟩:=hd j o J;rw[aV]at ak;obtain rfl:=aU ak;rw[G.got j o k J aV (aJ j bz),g2 j o (by simpa using J) aV (fun i Y am ax e=>ax (ba i j Y o k (by simpa using am) J e aV)) a1,Nat.zero_add]
    ·have a8:∀(j:Nat) (o:Oper),ops[j]? =some o->o.dst≠some k:=fun j o J e=>ao ⟨j,o,J,e⟩;rw[G.keep k fun j o J e=>absurd e (a8 j o J),g1 fun j o J=>a8 j o (by simpa using J)]
   obtain⟨t,bg⟩:=a;have ab:bg=(jv ops.toList x 0 a0).defers:=by rw[bH];exact G.df
   simp only at a3;rw[a3,ab]
  rw[ha];exact hend x w G.r (fun i am=>G.fact i am (aJ i am)) fun i j am hj bG aY ax=>G.apart i j bG aY ax (aJ i am) (aJ j hj)
 intro f;induction f with
 |zero=>
  intro l x a w hc G
  have hr:jE .any ops l=[]:=by
   rw[List.eq_nil_iff_forall_not_mem];intro i am;have aG:=(mem_ready.1 am).1;have aL:=uk aG;have:false∈l.toList:=by simp only[oC,aL,dif_pos]at aG;exact Array.mem_toList_iff.2 (aG▸Array.getElem_mem aL)
   have:=Kn.2 this;omega
  exact⟨hr,a4 l x a w G hr⟩
 |succ f bE=>
  intro l x a w hc G;refine⟨fun hr=>a4 l x a w G hr,fun i am=> ?_⟩;obtain⟨aG,o,J,aT⟩:=mem_ready.1 am;have aL:=uk aG;have bp:=E0 aG;have bI:i<ops.size:=by rw[<-G.ui];exact aL
  obtain⟨d,ak,a1⟩:=hd i o J;refine wpOp_step J fun aS hK'=> ?_;have hw:ox o (yielded ops a.tmps)=true:=by simp[ox,bv i o J]
  rw[if_pos hw]
  refine hstep i o J x a w G.r G.sz (fun k ao=>G.keep k fun j Y hj e=>absurd e (ao j Y hj)) (fun e he aj oj dj aN aP=>⟨G.got e.on oj dj aN aP (aT e he aj),G.fact e.on (by
   rcases b7 e.on ops.size with q|q;·exact q
   ·rw[iF q]at aN;cases aN) (aT e he aj)⟩) aS fun v w' hv a5 hR aZ=>hK' _ _ (bE (l.setIfInBounds i true) (fun k=>if k=i then v else x k) _ w' ?_ ?_)
  ·have:(l.setIfInBounds i true).toList.count false<l.toList.count false:=by
    rw[Array.toList_setIfInBounds];have a9:i<l.toList.length:=by simpa using aL
    rw[List.count_set (h:=a9)];have hv:l.toList[i]=false:=by simp only[oC,aL,dif_pos]at aG;simpa using aG
    have hp:0<l.toList.count false:=Kn.2 (hv▸List.getElem_mem a9);rw[hv];simp only[beq_self_eq_true,if_true];have aB:(true==false)=false:=rfl;rw[aB];simp only[Bool.false_eq_true,if_false];omega
   omega
  ·have aM:∀j,(l.setIfInBounds i true).getD j false=if i=j then true else l.getD j false:=fun j=>E1 l i j aL;have hx:∀k,l.getD k false=true->(if k=i then v else x k)=x k:=fun k ao=>by rw[if_neg (fun e=>by subst e;rw[bp]at ao;cases ao)]
   have bC:∀j,j<ops.size->l.getD j false=true->F j (fun k=>if k=i then v else x k) (x j) w':=fun j hj aJ=>by have aN:=pn hj;exact hF j _ aN x _ _ _ (fun e he aj=>(hx e.on (G.x6 j _ aN aJ e he aj)).symm) (bB j _ _ w w' (G.fact j hj aJ) a5)
   refine⟨by simpa using G.ui,?_,?_,?_,?_,?_,?_,?_,?_,hR⟩;·rw[ak];simpa[br]using G.sz
   ·rw[ak];simpa[br]using G.df
   ·intro k ao;have bA:d≠k:=fun e=>by have:=ao i o J (by rw[ak,e]);rw[aM,if_pos rfl]at this;cases this
    rw[ak,p4,if_neg bA];refine G.keep k fun j Y hj e=> ?_;have:=ao j Y hj e;rw[aM]at this;split at this;·cases this
    ·exact this
   ·intro j Y d' hj aP O;rw[aM]at O;by_cases e:i=j;·subst e;obtain rfl:=aU (J.symm.trans hj);obtain rfl:=aU (ak.symm.trans aP);rw[ak,p4,if_pos rfl,if_pos (by rw[G.sz];exact a1),if_pos rfl]
    ·rw[if_neg e]at O;have ax:d≠d':=fun ab=>e (ba i j o Y d J hj ak (by rw[ab];exact aP));rw[ak,p4,if_neg ax,hx j O];exact G.got j Y d' hj aP O
   ·intro j Y hj O e he aj;rw[aM]at O⊢;by_cases aB:i=j;·subst aB;obtain rfl:=aU (J.symm.trans hj);rw[aT e he aj];simp
    ·rw[if_neg aB]at O;rw[G.x6 j Y hj O e he aj];simp
   ·intro j hj O;rw[aM]at O;by_cases e:i=j;·subst e;rw[if_pos rfl];exact hF i o J x _ _ _ (fun e he aj=>(hx e.on (aT e he aj)).symm) hv
    ·rw[if_neg e]at O;rw[if_neg (fun ab=>e ab.symm)];exact bC j hj O
   ·intro j aY O g aj;rw[aM]at O;by_cases e:i=j;·subst e;rw[if_pos rfl]at aj;exact(aZ aY g aj).2
    ·rw[if_neg e]at O;rw[if_neg (fun ab=>e ab.symm)]at aj;exact Nat.lt_of_lt_of_le (G.lt j aY O g aj) a5.size
   ·intro p q a2 nq ax aX aQ g hp aO;rw[aM]at aX aQ;by_cases aB:i=p;·subst aB;rw[if_neg ax]at aQ;rw[if_pos rfl]at hp;rw[if_neg (fun ab=>ax ab.symm)]at aO;have:=(aZ a2 g hp).1;have:=G.lt q nq aQ g aO;omega
    ·rw[if_neg aB]at aX;rw[if_neg (fun ab=>aB ab.symm)]at hp;by_cases ab:i=q;·subst ab;rw[if_pos rfl]at aO;have:=(aZ nq g aO).1;have:=G.lt p a2 aX g hp;omega
     ·rw[if_neg ab]at aQ;rw[if_neg (fun bm=>ab bm.symm)]at aO;exact G.apart p q a2 nq ax aX aQ g hp aO
def oX(ops:Array Oper)(sz:Nat):Bool:=
 (ops.toList.zipIdx.all fun p=>p.1.guard.isNone&&(match p.1.dst with|some d=>decide (d<sz)|none=>false)&&p.1.after.all fun e=>decide (e.on<p.2))&&decide ((ops.toList.map fun o=>o.dst).Nodup)
theorem rz{ops:Array Oper}{sz:Nat}(h:oX ops sz=true){i:Nat}{o:Oper}(J:ops[i]? =some o):o.guard=none/\(∃d,o.dst=some d/\d<sz)/\∀e∈o.after,e.on<i:=by
 unfold oX at h;rw[cy,j4]at h;have hm:(o,i)∈ops.toList.zipIdx:=by rw[List.mk_mem_zipIdx_iff_getElem?];simpa using J
 have:=h.1 _ hm;simp only[cy,Option.isNone_iff_eq_none]at this;obtain⟨⟨h1,h2⟩,G⟩:=this;refine⟨h1,?_,?_⟩
 ·cases hd:o.dst with
  |none=>rw[hd]at h2;cases h2
  |some d=>rw[hd]at h2;exact⟨d,rfl,of_decide_eq_true h2⟩
 ·intro e he;rw[Array.all_eq_true']at G;exact of_decide_eq_true (G e he)
theorem E3{ops:Array Oper}{sz:Nat}(h:oX ops sz=true){i j:Nat}{o J:Oper}{d:Tmp}(Y:ops[i]? =some o)(hj:ops[j]? =some J)(h1:o.dst=some d)(h2:J.dst=some d):i=j:=by
 unfold oX at h;rw[cy]at h;have hn:=of_decide_eq_true h.2;have G:(ops.toList.map fun o=>o.dst)[i]? =some (some d):=by rw[jB];simp[Y,h1]
 have O:(ops.toList.map fun o=>o.dst)[j]? =some (some d):=by rw[jB];simp[hj,h2]
 have ab:i<(ops.toList.map fun o=>o.dst).length:=by
  rcases b7 i (ops.toList.map fun o=>o.dst).length with q|q;·exact q
  ·rw[List.getElem?_eq_none q]at G;cases G
 exact(List.getElem?_inj ab hn).1 (G.trans O.symm)
theorem E4{ops:Array Oper}{sz:Nat}(h:oX ops sz=true)(l:Array Bool)(ab:l.size=ops.size)(hr:jE .any ops l=[]):∀i,i<ops.size->l.getD i false=true:=by
 intro i;induction i using KT with
 |_ i Y=>
  intro J;have G:=pn J;by_cases e:l.getD i false=true;·exact e
  ·exfalso
   have:i∈jE .any ops l:=mem_ready.2 ⟨by
    have O:i<l.size:=by omega
    simp only[oC,O,dif_pos]at e⊢;simpa using e,_,G,fun x hx _=>Y x.on ((rz h G).2.2 x hx) (by have:=(rz h G).2.2 x hx;omega)⟩
   rw[hr]at this;cases this
theorem E5{id:Nat}{w:World}(hm:P.follows .mixedOrders=true)(O:oX ops a0.tmps.size=true)(F:Nat->(Nat->Value)->Value->World->Prop)(R:World->Prop)(N:Nat->Prop)(aG:∀i x v w w',F i x v w->Below w.heap.size w w'->F i x v w')(hF:∀(i:Nat) (o:Oper),ops[i]? =some o->∀x aj v w,(∀e∈o.after,oq .any e=true->x e.on=aj e.on)->F i x v w->F i aj v w)(hR:R w.drew)
  (hstep:∀(i:Nat) (o:Oper),ops[i]? =some o->∀x a w,R w->(∀k v,(ops.toList.all fun Y=>decide (Y.dst≠some k))=true->a0.tmps[k]? =some v->a.eval (.tmp k)=v)->
   (∀e∈o.after,oq .any e=true->∀(oj:Oper) (d:Tmp),ops[e.on]? =some oj->oj.dst=some d->a.eval (.tmp d)=x e.on/\F e.on x (x e.on) w)->
   ∀J:Act->World->Prop,(∀v w',F i x v w'->Below w.heap.size w w'->R w'->(N i->∀g,bk v=some g->w.heap.size<=g/\g<w'.heap.size)->J (a.put o.dst v) w')->o.wp P a w J Q)
  (hend:∀x w,R w->(∀i,i<ops.size->F i x (x i) w)->(∀i j,i<ops.size->j<ops.size->N i->N j->i≠j->∀g,bk (x i)=some g->bk (x j)≠some g)->Q .normal (jv ops.toList x 0 a0) w):
  (Code.region id ops true).wp P Q a0 w:=by
 have ev:∀{a:Act} {k:Nat} {v:Value},a.tmps[k]? =some v->a.eval (.tmp k)=v:=fun h=>by simp only[Act.eval,Array.getD_eq_getD_getElem?,h,Option.getD_some]
 refine wp_region_any hm (E2 (N:=N) (a0:=a0) (F:=F) (R:=R) aG hF (fun i o G=>(rz O G).1) (fun i o G=>(rz O G).2.1) (fun i j o Y d h1 h2 ak am=>E3 O h1 h2 ak am)
  (fun i o G x a w hr hs ao hd J hK=>hstep i o G x a w hr (fun k v ax aB=>ev (by rw[ao k (fun j Y aJ=>of_decide_eq_true (j4.1 ax Y (nw (i:=j) (by simpa using aJ))))];exact aB)) (fun e he ab oj d h1 h2=>⟨ev (hd e he ab oj d h1 h2).1,(hd e he ab oj d h1 h2).2⟩) J hK)
  hend (E4 O) _ _ (fun _=>undef) _ _ ?_ ?_)
 ·simp
 ·have hf:∀j,(Array.replicate ops.size false).getD j false=false:=fun j=>by simp only[oC];split<;>simp
  refine⟨by simp,rfl,rfl,fun _ _=>rfl,fun j o d _ _ h=> ?_,fun j o _ h=> ?_,fun j _ h=> ?_,fun j _ h=> ?_,fun i j _ _ _ h=> ?_,hR⟩<;>(rw[hf]at h;cases h)
end
theorem yB:∃j,ai.info? 224=some j/\j.size=2:=by
 have:(ai.info? 224).map (·.size)=some 2:=by kernel_rfl
 exact Option.map_eq_some_iff.1 this
theorem FL(b:Nat)(w:World)(G:w.cell? ⟨b,0,none⟩=some (az (some ⟨b,0,none⟩))):Calls ai 191 #[az (some ⟨b,0,none⟩)] w fun e w'=>e= .returned (bD #[])/\w'=w:=by obtain⟨j,hj,_⟩:=yB;go_in;go_wp2;rw[Lib.run_neq_ptr_same w _ B6 hj];go_wp2;go_end0;exact⟨rfl,rfl⟩
theorem FM(b:Nat)(w:World)(O:w.cell? ⟨b,0,none⟩=some (az none))(G:w.shape? b=some (224,2))(Y:w.frozen? ⟨b,0,none⟩=false):Calls ai 191 #[az (some ⟨b,0,none⟩)] w fun e w'=>e= .returned (bD #[])/\w'=w.setCell ⟨b,0,none⟩ (az (some ⟨b,0,none⟩)):=by obtain⟨j,hj,J⟩:=yB;go_in;go_wp2;rw[Lib.run_to_unsafe w ⟨b,0,none⟩ B6 Ku hj (by rw[J];decide) G (Nat.zero_lt_succ 1)];simp only[nj];rw[B7];go_wp2;rw[run_callFunc_extern Tryz.func216 (by kernel_rfl) (by kernel_rfl) (by kernel_rfl) (e:=KR) (by kernel_rfl)];rw[Lib.run_noEscape];simp only[nj];rw[B7];go_wp2;rw[Lib.run_from_unsafe w ⟨b,0,none⟩ Ku B6 hj G (by kernel_rfl)];simp only[nj];rw[B7];go_wp2;go_end0;exact⟨rfl,rfl⟩
abbrev hP(B b:Nat)(bs:List Value)(w:World):Prop:=Lib.IsBuilderF 224 5 B b bs w
abbrev oK(B b:Nat)(bs:List Value)(w:World):Prop:=Lib.BuilderAtF 224 5 B b (az (some ⟨b,0,none⟩)) bs w
def jJ(B b:Nat)(w w':World):Prop:=Below B w w'/\Lib.OthersKept 5 (some b) w w'
theorem yC(B b:Nat)(bs:List Value)(w:World)(h:hP B b bs w):Calls ai 191 #[az (some ⟨b,0,none⟩)] w fun e w'=>e= .returned (bD #[])/\oK B b bs w'/\jJ B b w w':=by
 rcases h with h|h;·refine(FM b w h.cell0 h.shape h.frozen0).mono ?_;rintro e w' ⟨rfl,rfl⟩;exact⟨rfl,h.used _,(aD B w).setCell (p:=⟨b,0,none⟩) h.1 _,(Kv _ _ w).setCell ⟨b,0,none⟩ rfl _⟩
 ·refine(FL b w h.cell0).mono ?_;rintro e w' ⟨rfl,rfl⟩;exact⟨rfl,h,aD B _,Kv _ _ _⟩
theorem yD:∃G,ai.info? 5=some G/\G.zero=some (af .u8 0)/\G.size=1/\G.bytes=1:=info_parts (by kernel_rfl)
theorem Cp(B b:Nat)(bs:List Value)(c:Int)(w:World)(h:hP B b bs w)(a1:bs.length+1<=140737488355328)(aZ:B<=w.heap.size):Calls ai 154 #[az (some ⟨b,0,none⟩),af .u8 c] w fun e w'=>e= .returned .nilIface/\oK B b (bs++[af .u8 c]) w'/\jJ B b w w':=by
 obtain⟨aP,ax,aM,aN,aO⟩:=yD;go_in;go_wp2_with(go_at_call 191;refine(yC B b bs _ h).mono ?_);rintro e w1 ⟨rfl,h1,J,aG⟩;obtain⟨ak,v,Y,aj,aL⟩:=h1;have aQ:w1.cell? ⟨b,0,none⟩=some (az (some ⟨b,0,none⟩)):=by rw[oE Y];rfl
 have c1:w1.cell? ⟨b,1,none⟩=some v:=by rw[oE Y];rfl
 go_wp2_with(at_builtin;refine wpList_append_ownF _ rfl _ _ 222 rfl B 5 aP (af .u8 0) 1 1 Kw ax aM aN aO rfl (by decide) _ _ _ rfl (aj.alloc _) ⟨w1.heap.size,0,none⟩ 1 1 [af .u8 c] rfl rfl ?c1 ?c2 ?c3 ?c4 ?c5 ?_)
 case c1=>
  intro j u hj
  match j,hj with
  |0,hj=>simp at hj;subst hj;simp[Addr.add]
 case c2=>intro u ao;simp at ao;subst ao;rfl
 case c3=>unfold maxLen;omega
 case c4=>omega
 case c5=>have:=J.size;simp;omega
 intro v' w2 am ab _
 have aJ:b<w1.heap.size:=by
  rcases b7 b w1.heap.size with h'|h';·exact h'
  ·simp[iF h']at Y
 have O:w2.heap[b]? =some (.cells #[az (some ⟨b,0,none⟩),v] 224 (0,0)):=by rw[ab.block b (by simp;omega) (fun e=>aL e.symm),Lib.alloc_old w1 _ b aJ];exact Y
 have d0:w2.cell? ⟨b,0,none⟩=some (az (some ⟨b,0,none⟩)):=by rw[oE O];rfl
 have aT:w2.cell? ⟨b,1,none⟩=some v:=by rw[oE O];rfl
 have aV:w2.frozen? ⟨b,1,none⟩=false:=L4 O 1
 obtain⟨g,G,rfl⟩:∃g G,v'=ag (some ⟨g,0,none⟩) (bs.length+1) G:=by
  rcases am.2 with⟨_,aY⟩|⟨g,G,aS,aX,hv,_⟩;·omega
  ·exact⟨g,G,hv⟩
 go_wp2;go_ret;refine⟨rfl,?_,?_,((aG.alloc _).grown ab (Ky (aj.alloc _))).setCell ⟨b,1,none⟩ rfl _⟩;·exact Kz (T:=224) (e:=5) ak O (bs':=bs++[af .u8 c]) (by simpa using am) (by decide)
 ·exact((J.alloc (by have:=J.size;omega) _).grown ab (by have:=J.size;simp;omega) (fun k aB=>(aj.lt k aB).1)).setCell (p:=⟨b,1,none⟩) ak _
theorem Co(B b:Nat)(bs:List Value)(s:ByteArray)(w:World)(h:hP B b bs w)(aZ:bs.length+s.size<=140737488355328)(aY:B<=w.heap.size):Calls ai 152 #[az (some ⟨b,0,none⟩),ah s] w fun e w'=>e= .returned (bD #[af ae s.size,.nilIface])/\oK B b (bs++Lib.strCells s) w'/\jJ B b w w':=by
 obtain⟨aP,ax,aM,aN,aO⟩:=yD;go_in;go_wp2_with(go_at_call 191;refine(yC B b bs _ h).mono ?_);rintro e w1 ⟨rfl,h1,Y,aG⟩;obtain⟨am,v,J,aj,aL⟩:=h1;have aQ:w1.cell? ⟨b,0,none⟩=some (az (some ⟨b,0,none⟩)):=by rw[oE J];rfl
 have c1:w1.cell? ⟨b,1,none⟩=some v:=by rw[oE J];rfl
 go_wp2_with(at_builtin;refine Lib.wpList_append_own_stringF _ rfl _ _ 222 9 rfl B 5 aP Kw Tryz.underlying9 ax aM aN aO _ _ _ rfl aj s rfl ?c3 ?c4 ?c5 ?_);case c3=>unfold maxLen;omega
 case c4=>omega
 case c5=>have:=Y.size;omega
 intro v' w2 ao ab _
 have aJ:b<w1.heap.size:=by
  rcases b7 b w1.heap.size with h'|h';·exact h'
  ·simp[iF h']at J
 have G:w2.heap[b]? =some (.cells #[az (some ⟨b,0,none⟩),v] 224 (0,0)):=by rw[ab.block b aJ (fun e=>aL e.symm)];exact J
 have d0:w2.cell? ⟨b,0,none⟩=some (az (some ⟨b,0,none⟩)):=by rw[oE G];rfl
 have aT:w2.cell? ⟨b,1,none⟩=some v:=by rw[oE G];rfl
 have aV:w2.frozen? ⟨b,1,none⟩=false:=L4 G 1
 obtain⟨ak,n',O,rfl⟩:∃ak n' O,v'=ag ak n' O:=by
  rcases ao.2 with⟨hv,_⟩|⟨g,O,aS,aX,hv,_⟩;·exact⟨_,_,_,hv⟩
  ·exact⟨_,_,_,hv⟩
 go_wp2;go_ret2;refine⟨rfl,?_,?_,(aG.grown ab (Ky aj)).setCell ⟨b,1,none⟩ rfl _⟩;·exact Kz (T:=224) (e:=5) am G (bs':=bs++Lib.strCells s) (by simpa[Lib.strCells_length]using ao) (by decide)
 ·exact(Y.grown ab (by have:=Y.size;omega) (fun k aB=>(aj.lt k aB).1)).setCell (p:=⟨b,1,none⟩) am _
end Go.Proofs.YtdplggpbgommnaaGreatDoor
