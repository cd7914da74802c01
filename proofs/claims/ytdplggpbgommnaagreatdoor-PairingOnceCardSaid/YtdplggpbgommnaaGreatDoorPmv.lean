/- pairing.pairMoved. -/
import Derived.Test.YtdplggpbgommnaaGreatDoorG25
open Bool renaming noConfusion->KK
open Go renaming heap_alloc_old->oi
open Go.Addr.mk renaming injEq->cx
open Go.Instr renaming mapUpdate->lA
open Go.IntKind renaming i64->ae
open Go.Lib renaming hid->aa
open Go.Proofs.Tryz renaming prog->ai,underlying117->oH
open Go.RowKit.Below renaming refl->aD
open Go.Value renaming int->af,ownBlock->bW,pointer->az,slice->ag
open Go.World renaming cell?_of_block->dc
open List renaming drop_length->K2,eq_nil_of_length_eq_zero->kA,foldl_append->dH,getElem?_cons_succ->bQ,getElem?_cons_zero->bc,getElem?_toArray->bw,getElem_cons_zero->dJ,getElem_mem->aK,length_nil->cL,range->aw,take_length->cP,take_succ_eq_append_getElem->K1
open List.Pairwise renaming nil->B1
open Nat renaming add_zero->dz,le_refl->kI,le_trans->b5,lt_of_lt_of_le->bK,zero_le->aW,zero_mul->Kg
open Option.some renaming injEq->aC,inj->aU
set_option maxRecDepth 100000
set_option maxHeartbeats 8000000
namespace Go.Proofs.YtdplggpbgommnaaGreatDoor
open Go.RowKit
abbrev jZ(n:Int):Value:=af ae n
def vv:Value->Nat| ag _ n _=>n|_=>0
section
variable {h:Hp} {w:World} {B xb so sn:Nat} {budget:Int} {V:eL->Value} {s:bp} {ot nt:List Tree} {mr nr:List Nat} {kv dR:Value}
theorem HE(T:Lib.PrintTabs)(N:Nat)(q:bH h w B xb so sn budget V s)(tb:Tb T N w)(_hNB:N<=B)(_hB:B<=w.heap.size)(K:cC h so ot mr (V .om) (V .oa) kv)(fC:cC h sn nt nr (V .nm) (V .na) dR)(sh:cw s ot nt)(b1:e7 ot)(b2:e7 nt)(gG:pa ot)(gJ:pa nt):Calls ai 28 #[az (some ⟨xb,0,none⟩)] w fun e w'=>e= .returned (.tuple #[])/\bH h w' B xb so sn budget V (lc (aX T) (aj 0 ot) (aj 0 nt) s)/\Tu (dF V xb) w w':=by
 have Q:=aa q;have X:=aa q.ci;have c6:=X.out.c0;have bZ:=X.out.lt
 have a8:Hid (∀b,dF V xb b->b<w.heap.size):=fun b e=>by
  rcases e with⟨r,e⟩|rfl;·exact((q.rows.own r).lt b e).2
  ·exact q.ci.lt
 have d4:Hid (∀b,dF V xb b->h b=none):=fun b e=>by
  rcases e with e|rfl;·exact(q.rG b e).1
  ·exact q.xn
 have je:= @run_makeMap ai;have b3:Below w.heap.size w (((w.alloc (.map #[] 0)).alloc (.cells #[.map (some w.heap.size)] 116)).alloc (.map #[] 0)):=(((aD _ _).alloc (kI _) _).alloc (by simp) _).alloc (by simp;omega) _;have iV:=(b3.cell (p:=⟨xb,0,none⟩) bZ).trans c6;have eB:Hid (Has (((w.alloc (.map #[] 0)).alloc (.cells #[.map (some w.heap.size)] 116)).alloc (.map #[] 0)) (w.heap.size+1) #[.map (some w.heap.size)]):=(Has.kY w (.map #[] 0) #[.map (some w.heap.size)] 116).alloc _;have fN:Hid (aS j8 (((w.alloc (.map #[] 0)).alloc (.cells #[.map (some w.heap.size)] 116)).alloc (.map #[] 0)) w.heap.size (hB [])):=by unfold Hid aS;rw[oi _ _ (by simp;omega),oi _ _ (by simp),heap_alloc_new];rfl
 have fP:Hid (aS jZ (((w.alloc (.map #[] 0)).alloc (.cells #[.map (some w.heap.size)] 116)).alloc (.map #[] 0)) (w.heap.size+1+1) []):=by have:=aS.new jZ ((w.alloc (.map #[] 0)).alloc (.cells #[.map (some w.heap.size)] 116));unfold Hid;simpa using this
 have aN:Hid (∀b,w.heap.size<=b->h b=none):=fun b aZ=>bI q.I b aZ;have hk:=aa b3;have aQ:=aa (q.below b3);have ey:=aa (tb.below (b3.mono tb.1));have i0:((((w.alloc (.map #[] 0)).alloc (.cells #[.map (some w.heap.size)] 116)).alloc (.map #[] 0))).heap.size=w.heap.size+3:=by simp
 have dC:=aa gG;have dD:=aa gJ;have hT:=aa K;have hU:=aa fC;have h9:=aa sh;have js:=tb.1;have iq:=b1.dS;have ir:=b2.dS;have fg:=aa b1;have fh:=aa b2;clear q tb K fC gG gJ b3 sh b1 b2;go_in;go_wp2_with fail;generalize(((w.alloc (.map #[] 0)).alloc (.cells #[.map (some w.heap.size)] 116)).alloc (.map #[] 0))=w3 at*;clear iV c6;refine(yL T N aQ.out.I ey.out hT.out (w.heap.size+1) w.heap.size [] (by omega) (by omega) (by omega) (aN.out _ (kI _)) eB.out fN.out dC.out.short (by have:=dC.out.sum;simp;omega) (fun d hd=>b5 (dC.out.num d hd) (by omega)) iq).mono ?_;rintro e am ⟨lv,rfl,cl⟩;have d1:Hid ((dk (aX T) (aj 0 ot) []).1.length<=200000/\(dk (aX T) (aj 0 ot) []).2.length<=200000):=by have:=rH (ck:=aX T) (aj 0 ot) ([],[]);have:=dC.out.sum;simp only[cL]at*;unfold Hid dk;omega
 have ff:Hid (∀x∈(dk (aX T) (aj 0 ot) []).1,x.module<ot.length/\0<x.size/\1<=x.number/\x.number+x.size<=(ot.getD x.module default).size):=rN ot [];have hu:Hid (∀x∈(dk (aX T) (aj 0 ot) []).1,∀y∈(dk (aX T) (aj 0 nt) (dk (aX T) (aj 0 ot) []).2).1,x.a6=y.a6->x.size=y.size):=GY (GZ T) _ _;have hY:Hid (lc (aX T) (aj 0 ot) (aj 0 nt) s=((dk (aX T) (aj 0 nt) (dk (aX T) (aj 0 ot) []).2).1.foldl e3 ((dk (aX T) (aj 0 ot) []).1.foldl gH [],s)).2):=rfl;generalize dk (aX T) (aj 0 ot) []=A at*
 have cn:Tu (fun k=>k=w.heap.size) w3 am:=cl.tu.mono fun k e=>by
  rcases e with e|e;·simp[bW]at e
  ·exact e
 have nx:∀b,dF V xb b->¬b=w.heap.size:=fun b e O=>by have:=a8.out b e;omega
 have dE:=aa (aQ.out.tu cn fun b e=>⟨aN.out b (by omega),fun O=>nx b (.inr O) e,fun k O=>nx b (.inl ⟨k,O⟩) e⟩);have f8:=aa (eB.out.tu cn (by omega));have fO:=aa cl.map;have fQ:=aa (fP.out.tu cn (by omega));have ez:=aa (cl.tb ey.out (by simp[bW]) (by omega));have h4:=aa cl.own;have jp:=cn.size;have f0:Hid (e6 cX 4 (h.fr w3.heap.size am) lv A.1):=by unfold Hid;exact cl.own.uY (by have:=d1.out;omega)
 have fD:Hid (h.le (h.fr w3.heap.size am)):=Hp.gQ dE.out.I;have ei:Hid (ao (h.fr w3.heap.size am) am):=dE.out.I.fr;have dw:Hid (∀b,b<w3.heap.size->(h.fr w3.heap.size am) b=h b):=fun b aZ=>by unfold Hp.fr;rw[if_pos aZ]
 generalize h.fr w3.heap.size am=aV at*;have ft:Hid (cY jZ 121 4 cX am aV am.heap.size (w.heap.size+1+1) ([]:List (Int×List bq)) []):=⟨fQ.out,rfl,fun i aO=>by simp at aO,B1⟩
 have f4:Hid (Tu (dF V xb) w am):=((Tu.refl _ _).below hk.out).step cn fun k e=> .inr (by omega);obtain⟨-,i3,c4,rfl,jb⟩:=f0.out;clear cl cn nx aQ eB fN fP ey h4;have i5:=d1.out.1;go_wp2_with fail;go_loopw[21] (fun i wr=>∃(j:Nat) (l:List (Int×Value)),j<=A.1.length/\i=af ae j/\cY jZ 121 4 cX wr aV am.heap.size (w.heap.size+1+1) ((A.1.take j).foldl gH []) l/\(∀q∈(A.1.take j).foldl gH [],q.2.length<=j)/\Tu (fun k=>k=w.heap.size+1+1) am wr) (fun i _=>A.1.length-(intOf i).toNat);case atStart=>exact⟨0,[],aW _,rfl,ft.out,fun q dW=>by simp at dW,Tu.refl _ _⟩
 case round=>
  obtain⟨j,l,iz,rfl,g,ch,ak⟩:=hrel;by_cases hj:j<A.1.length
  ·have ax:ao aV wr:=ak.I ei.out fun b e=>by subst e;rw[dw.out _ (by omega)];exact aN.out _ (by omega)
   obtain⟨b,off,rfl,fe,d0,bN,bO,bR⟩:=f0.out.sub ax j hj;have a5:Hid ((A.1.take (j+1)).foldl gH []=gH ((A.1.take j).foldl gH []) A.1[j]):=by unfold Hid;rw[K1 hj,dH];rfl
   generalize(A.1.take j).foldl gH []=rest at*;have hx:A.1[j]∈A.1:=aK hj;have ar:=ff.out _ hx;generalize A.1[j]=x at*;have iQ:(0:Int)<=(j:Int):=by omega
   have iR:(j:Int)<(A.1.length:Int):=by omega
   have dp:=aa g;have aP:=aa ch;have ep:=aa ak;have fy:=aa ax;clear g ch ak ax;by_cases cf:3<=x.size
   ·have e8:(3:Int)<=(x.size:Int):=by omega
    go_wp2_with fail;have bL:=aa (ep.out.alloc (.cells #[af ae x.module,af ae x.number,af ae x.size,af ae x.a6] 121));have aB:=aa (dp.out.tu ((Tu.refl (fun _=>False) wr).alloc (.cells #[af ae x.module,af ae x.number,af ae x.size,af ae x.a6] 121)) id (fun k q=>q.elim));have b9:=aa (fy.out.alloc (.cells #[af ae x.module,af ae x.number,af ae x.size,af ae x.a6] 121));have aM:=aa (Has.new wr #[af ae x.module,af ae x.number,af ae x.size,af ae x.a6] 121);have fT:Hid (∀b,((aT l (x.a6:Int)).getD (ag none 0 0)).ownBlock=some b->b<wr.heap.size):=fun b e=>((dp.out.row (x.a6:Int)).lt b e).2;clear dp ep fy d0 bN bO bR fe;generalize wr.alloc (.cells #[af ae x.module,af ae x.number,af ae x.size,af ae x.a6] 121)=W at*;generalize wr.heap.size=G at*;have cM:=aM.out.cl 0;have bS:=aM.out.cl 1;have O:=aM.out.cl 2;have cN:=aM.out.cl 3;simp only[bw,bc,bQ]at cM bS O cN;have bY:=aM.out.lt;have bv:=(aS.look mP (w:=W.drew) (aB.out.map.keep rfl) (x.a6:Int) 117 118 (ag none 0 0) oH (fun W=>by kernel_rfl)).1;have hh:=aa (aB.out.tu ((Tu.refl (fun _=>False) W).alloc (.cells #[af ae x.module,af ae x.number,af ae x.size,af ae x.a6] 121)) id (fun k q=>q.elim));have hV:=(aS.look mP (w:=(W.alloc (.cells #[af ae x.module,af ae x.number,af ae x.size,af ae x.a6] 121)).drew) (hh.out.map.keep rfl) (x.a6:Int) 117 118 (ag none 0 0) oH (fun W=>by kernel_rfl)).1
    have ch:((aT rest (x.a6:Int)).getD []).length<=j:=by
     unfold aT;cases hp:bm rest (x.a6:Int)with
     |none=>simp
     |some q=>simp only[Option.bind_some,List.getElem?_eq_getElem (fv hp),Option.map_some,Option.getD_some];exact aP.out _ (aK _)
    have jq:am.heap.size<=W.heap.size:=bL.out.size;have iH:am.heap.size<=W.heap.size+1:=by omega
    have cE:=aa (aB.out.row (x.a6:Int));obtain⟨dO,dQ,eF⟩:=cE.out.shape;rw[eF]at bv hV cE fT;generalize gw:((aT rest (x.a6:Int)).getD []).length=a1 at*;have fr:=aa eF;have h3:Hid (∀b,(ag dO a1 dQ).ownBlock=some b->b≠w.heap.size+1+1):=fun b e=>by have:=(cE.out.lt b e).1;omega
    have hI:=aa gw;clear eF gw
    go_region_law(first
     |(refine gS wy (by rfl) _ _ (by rfl) (B:=am.heap.size) (St.dN ((b9.out.alloc _).drewN _) (by simpa using iH)) _ a1 (((aT rest (x.a6:Int)).getD []).flatMap cX) (by rfl) ((cE.out.alloc _).drewN _) ⟨W.heap.size,0,none⟩ 1 1 [af ae x.module,af ae x.number,af ae x.size,af ae x.a6] (by rfl) (by rfl) (cK _ _ _ _ (by simp)) (cm _ rfl) (by omega) (by omega) ?_;intro cS cg e9 iE e0 gp ge;have dZ:Tu (fun k=>(ag dO a1 dQ).ownBlock=some k) W e9:=(((Tu.refl _ W).alloc _).drewN _).grown gp (fun k e=> .inl e);have fG:=aa (aB.out.map.tu dZ (fun e=>h3.out _ e rfl));have fc:=aM.out.tu dZ (fun e=>Nat.lt_irrefl _ (fT.out _ e));have c3:=fc.cl 3;simp only[bw,bc,bQ]at c3;have jA:=fc.lt;clear fc;obtain⟨ba,gx,gK,eG⟩:∃ba,(lA 117 (.map (some (w.heap.size+1+1))) (af ae (x.a6:Int)) (ag (some ⟨cS,0,none⟩) (a1+1) cg)).run ai e9= .ok () ba/\aS jZ ba (w.heap.size+1+1) (aY l (x.a6:Int) (ag (some ⟨cS,0,none⟩) (a1+1) cg))/\e9.grownBy ba (some (w.heap.size+1+1)):=⟨_,aS.put mP fG.out (x.a6:Int) _ 117 118 oH⟩;have f7:=aa ((dZ.mono (S':=fun k=>(ag dO a1 dQ).ownBlock=some k\/k=w.heap.size+1+1) (fun k e=> .inl e)).grown eG (fun k e=> .inl (.inr (aU e).symm)));have h5:=aa (e0.grown eG (fun b aZ e=>by have h1:=(e0.lt b aZ).1;have h2:=aU e;omega));have hW:=aa gK;have hq:Hid ((ag (some ⟨cS,0,none⟩) (a1+1) cg).ownBlock=(ag dO a1 dQ).ownBlock\/∃b,(ag (some ⟨cS,0,none⟩) (a1+1) cg).ownBlock=some b/\W.heap.size<=b):=(by rcases ge with e|e;exact .inl e;exact .inr ⟨_,e,by simp⟩);clear iE e0 gp ge dZ gK eG fG))
    all_goals
     have ib:=aa (bL.out.step f7.out fun k e=>by
      rcases e with e|e;·exact .inr (cE.out.lt k e).1
      ·exact .inl e)
     have hO:Hid (cY jZ 121 4 cX ba aV am.heap.size (w.heap.size+1+1) (aY rest (x.a6:Int) ((aT rest (x.a6:Int)).getD []++[x])) (aY l (x.a6:Int) (ag (some ⟨cS,0,none⟩) (a1+1) cg))):=by
      refine aB.out.step (by omega) (x.a6:Int) _ _ hW.out ?_ (by rw[fr.out];exact hq.out) (fun b aZ h1 h2=>f7.out.block b aZ fun e=> ?_)
      ·have bS:((aT rest (x.a6:Int)).getD []++[x]).length=a1+1:=by rw[List.length_append,hI.out];rfl
       have O:((aT rest (x.a6:Int)).getD []++[x]).flatMap cX=((aT rest (x.a6:Int)).getD []).flatMap cX++[af ae x.module,af ae x.number,af ae x.size,af ae x.a6]:=by simp[cX]
       rw[bS,O];exact h5.out
      ·rw[fr.out]at h2;rcases e with e|e;·exact h2 e
       ·exact h1 e
     have aL:Hid (gH rest x=aY rest (x.a6:Int) ((aT rest (x.a6:Int)).getD []++[x])):=by unfold Hid gH;rw[if_pos cf]
     go_wp2_with fail;go_roundw;case rel=>exact⟨j+1,_,by omega,by go_num,by rw[a5.out,aL.out];exact hO.out,by rw[a5.out];exact G4 aP.out,ib.out⟩
     case measure=>simp[intOf];omega
   ·have e8:¬(3:Int)<=(x.size:Int):=by omega
    have aL:Hid (gH rest x=rest):=by unfold Hid gH;rw[if_neg cf]
    go_wp2_with fail;go_roundw;case rel=>exact⟨j+1,l,by omega,by go_num,by rw[a5.out,aL.out];exact dp.out.tu ((Tu.refl (fun _=>False) wr).alloc _) id (fun k q=>q.elim),fun q dW=>by rw[a5.out,aL.out]at dW;have:=aP.out q dW;omega,ep.out.alloc _⟩
    case measure=>simp[intOf];omega
  ·obtain rfl:j=A.1.length:=by omega
   rw[cP]at g ch;have a4:Hid (kx A.1 (A.1.foldl gH [])):=G3 A.1;generalize A.1.foldl gH []=dm at*;have eZ:∀b,dF V xb b->¬b=w.heap.size+1+1:=fun b e O=>by have:=a8.out b e;omega
   have cc:=aa (dE.out.tu ak fun b e=>⟨aN.out b (by omega),fun O=>eZ b (.inr O) e,fun k O=>eZ b (.inl ⟨k,O⟩) e⟩);have eC:=aa (f8.out.tu ak (by omega));have el:=aa (fO.out.tu ak (by omega));have eA:=aa (ez.out.below (ak.jR ez.out.1 fun k e=>by omega));have er:Hid (Tu (dF V xb) w wr):=f4.out.step ak fun k e=> .inr (by omega);have g3:=ak.size;have ec:ao aV wr:=ak.I ei.out fun b e=>by subst e;rw[dw.out _ (by omega)];exact aN.out _ (by omega)
   have dt:=aa (g.G0 ch (by omega));have ej:Hid (ao (aV.fr am.heap.size wr) wr):=ec.fr;have fE:Hid (aV.le (aV.fr am.heap.size wr)):=Hp.gQ ec;have d9:Hid (∀b,b<am.heap.size->(aV.fr am.heap.size wr) b=aV b):=fun b aZ=>by unfold Hp.fr;rw[if_pos aZ]
   generalize aV.fr am.heap.size wr=h7 at*;obtain⟨bg,gz⟩:∃bg,bg=wr:=⟨_,rfl⟩
   rw[<-gz]at cc eC el eA er g3 dt ej⊢;clear gz g ch ak ec eZ ft fQ dE f8 fO ez ei f4;have iU:=cc.out.ci.c1;have jJ:=cc.out.ci.lt;have fi:=aa (yL T N cc.out.I eA.out hU.out (w.heap.size+1) w.heap.size A.2 (by omega) (by omega) (by omega) (aN.out _ (kI _)) eC.out el.out dD.out.short (by have:=dD.out.sum;have:=d1.out.2;omega) (fun d hd=>b5 (dD.out.num d hd) (by omega)) ir);go_wp2_with fail;refine fi.out.mono ?_;rintro e a2 ⟨jl,rfl,e5⟩;have fj:Hid ((dk (aX T) (aj 0 nt) A.2).1.length<=200000):=by have:=rH (ck:=aX T) (aj 0 nt) ([],A.2);have:=dD.out.sum;simp only[cL]at*;unfold Hid dk;omega
   have hD:Hid (∀x∈(dk (aX T) (aj 0 nt) A.2).1,x.module<nt.length/\0<x.size/\1<=x.number/\x.number+x.size<=(nt.getD x.module default).size):=rN nt A.2;generalize dk (aX T) (aj 0 nt) A.2=D at*
   have co:Tu (fun k=>k=w.heap.size) bg a2:=e5.tu.mono fun k e=>by
    rcases e with e|e;·simp[bW]at e
    ·exact e
   have nx:∀b,dF V xb b->¬b=w.heap.size:=fun b e O=>by have:=a8.out b e;omega
   have fW:=aa (cc.out.tu co fun b e=>⟨aN.out b (by omega),fun O=>nx b (.inr O) e,fun k O=>nx b (.inl ⟨k,O⟩) e⟩);have f5:Hid (Tu (dF V xb) w a2):=er.out.step co fun k e=> .inr (by omega);have jr:=co.size;have fZ:h7 w.heap.size=none:=by rw[d9.out _ (by omega),dw.out _ (by omega)];exact aN.out _ (kI _)
   have ed:ao h7 a2:=co.I ej.out fun b e=>by subst e;exact fZ
   have fF:Hid (h7.le (h7.fr bg.heap.size a2)):=Hp.gQ ed;have fB:Hid (ao (h7.fr bg.heap.size a2) a2):=ed.fr;have f1:Hid (e6 cX 4 (h7.fr bg.heap.size a2) jl D.1):=(e5.own.uY (by have:=fj.out;omega)).mono (Hp.G1 (Hp.le_trans fD.out fE.out) _ _);have fu:Hid (hZ jZ cX 4 (h7.fr bg.heap.size a2) a2 (w.heap.size+1+1) dm l):=(dt.out.mono fF.out).keep (co.block _ dt.out.map.lt (by omega));have cB:Hid (∀b,b<w3.heap.size->(h7.fr bg.heap.size a2) b=h b):=fun b aZ=>by unfold Hp.fr;rw[if_pos (by omega),d9.out _ (by omega),dw.out _ aZ]
   generalize h7.fr bg.heap.size a2=a9 at*;obtain⟨-,i4,i7,rfl,jc⟩:=f1.out;have i9:=fj.out;clear e5 co nx cc er eA el eC ej dt fE fF ed fi iU fZ fD d9 g3;go_wp2_with fail;go_loopw[46] (fun i wr=>∃(j:Nat) (l2:List (Int×Value)) (g2:List (Int×List bq)) (Y:bp),j<=D.1.length/\i=af ae j/\(D.1.take j).foldl e3 (dm,s)=(g2,Y)/\hZ jZ cX 4 a9 wr (w.heap.size+1+1) g2 l2/\kx A.1 g2/\bH h wr B xb so sn budget V Y/\cw Y ot nt/\ao a9 wr/\Tu (dF V xb) w wr) (fun i _=>D.1.length-(intOf i).toNat);case atStart=>exact⟨0,l,dm,s,aW _,rfl,rfl,fu.out,a4.out,fW.out,h9.out,fB.out,f5.out⟩
   case round=>
    obtain⟨j,l2,g2,Y,iz,rfl,cV,g,eH,q,sh,ax,ak⟩:=hrel;clear fu a4 fW fB f5;by_cases hj:j<D.1.length
    ·have a5:Hid ((D.1.take (j+1)).foldl e3 (dm,s)=e3 (g2,Y) D.1[j]):=by unfold Hid;rw[K1 hj,dH,cV];rfl
     obtain⟨b,off,rfl,fe,d0,bN,bO,bR⟩:=f1.out.sub ax j hj;have hx:D.1[j]∈D.1:=aK hj;have dT:=hD.out _ hx;have cs:Hid (∀o∈A.1,o.a6=D.1[j].a6->o.size=D.1[j].size):=fun o ci e=>hu.out o ci _ hx e;generalize D.1[j]=x at*;have iQ:(0:Int)<=(j:Int):=by omega
     have iR:(j:Int)<(D.1.length:Int):=by omega
     have hJ:=aa g;have a4:=aa eH;have h8:=aa q;have bJ:=aa sh;have hQ:=aa ax;have ik:=aa ak;have cz:Below wr.heap.size wr (wr.alloc (.cells #[af ae x.module,af ae x.number,af ae x.size,af ae x.a6] 121)):=(aD _ _).alloc (kI _) _;have aB:=aa (g.keep (cz.block _ g.map.lt));have bG:=aa (q.below cz);have b9:=aa (ax.below cz);have bL:=aa (ak.below cz);have aM:=aa (Has.new wr #[af ae x.module,af ae x.number,af ae x.size,af ae x.a6] 121);have fU:Hid (w.heap.size+1+1<wr.heap.size):=g.map.lt;clear cV g eH q sh ax ak cz;go_wp2_with fail;clear d0 bN bO bR fe hJ h8 hQ ik;generalize wr.alloc (.cells #[af ae x.module,af ae x.number,af ae x.size,af ae x.a6] 121)=W at*;generalize wr.heap.size=G at*;have cM:=aM.out.cl 0;have bS:=aM.out.cl 1;have O:=aM.out.cl 2;have cN:=aM.out.cl 3;simp only[bw,bc,bQ]at cM bS O cN;have bY:=aM.out.lt;by_cases cf:x.size<3
     ·have e8:decide ((x.size:Int)<3)=true:=by simp;omega
      have aL:Hid (e3 (g2,Y) x=(g2,Y)):=by unfold Hid e3;rw[if_pos (.inl cf)]
      go_quiet(fail);go_wp2_with fail;go_roundw;case rel=>exact⟨j+1,l2,g2,Y,by omega,by go_num,by rw[a5.out,aL.out],aB.out.keep rfl,a4.out,bG.out.below ((aD _ _).drewN _),bJ.out,b9.out.drewN _,bL.out.drewN _⟩
      case measure=>simp[intOf];omega
     ·have e8:decide ((x.size:Int)<3)=false:=by simp;omega
      have cF:=aB.out.row (x.a6:Int);have bv:=(aS.look mP (w:=W.drew) (aB.out.map.keep rfl) (x.a6:Int) 117 118 (ag none 0 0) oH (fun W=>by kernel_rfl)).1;have ek:=fun n=>(aS.look mP (w:=W.drewN n) (aB.out.map.keep rfl) (x.a6:Int) 117 118 (ag none 0 0) oH (fun W=>by kernel_rfl)).1;have cA:Hid (∀o∈(aT g2 (x.a6:Int)).getD [],o∈A.1/\(o.a6:Int)=x.a6):=a4.out _;obtain⟨J,eI⟩:∃J,(aT g2 (x.a6:Int)).getD []=J:=⟨_,rfl⟩
      rw[eI]at cF cA;obtain⟨g5,eW⟩:∃g5,(aT l2 (x.a6:Int)).getD (ag none 0 0)=g5:=⟨_,rfl⟩
      rw[eW]at bv ek cF;obtain⟨-,av,i8,rfl,hcv⟩:=id cF;have f2:=aa cF;clear cF;have aP:=aa eI;have eb:=aa eW;clear eI eW;by_cases dU:J.length=0
      ·have iu:J=[]:=kA dU;have aL:Hid (e3 (g2,Y) x=(g2,Y)):=by unfold Hid e3;rw[if_pos (.inr (.inl (by rw[aP.out,iu])))]
       rw[dU]at ek;clear f2 bv;go_quiet(fail);go_wp2_with fail;go_roundw;case rel=>exact⟨j+1,l2,g2,Y,by omega,by go_num,by rw[a5.out,aL.out],aB.out.keep rfl,a4.out,bG.out.below ((aD _ _).drewN _),bJ.out,b9.out.drewN _,bL.out.drewN _⟩
       case measure=>simp[intOf];omega
      ·have jf:0<J.length:=by omega
       have jt:((J.length:Int)==0)=false:=by rw[beq_eq_false_iff_ne];omega
       have jy:decide ((J.length:Int)=0)=false:=decide_eq_false (by omega);have ho:=fh.out.lr;have a3:=aa fun w' (b':Below W.heap.size W w')=>G5 (bG.out.below b') bJ.out x dT.1 dT.2.1 dT.2.2.2 ho;have gi:=bG.out.ci.c1;have dh:=bG.out.ci.lt;unfold o1 at a3;obtain⟨bu,bT⟩:∃bu,fX Y.nt x=bu:=⟨_,rfl⟩
       rw[bT]at a3;have cD:=aa bT;clear bT
       go_region_held3(fun w'=>w'.cell? ⟨G,0,none⟩=some (af ae x.module)/\w'.cell? ⟨G,1,none⟩=some (af ae x.number)/\w'.cell? ⟨G,2,none⟩=some (af ae x.size)/\w'.cell? ⟨G,3,none⟩=some (af ae x.a6)/\w'.cell? ⟨xb,1,none⟩=some (az (some ⟨sn,0,none⟩))) (first|(go_keep;done)|exact⟨dY,k1,k2,k3,k4⟩) (first
        |(go_at_call 66;refine(a3.out _ (by exact(aD _ _).drew)).mono ?_;rintro e fb ⟨rfl,gc⟩;have ab:=aa (((aD W.heap.size W).drew).trans gc);have dY:=(ab.out.cell (p:=⟨G,0,none⟩) bY).trans cM;have k1:=(ab.out.cell (p:=⟨G,1,none⟩) bY).trans bS;have k2:=(ab.out.cell (p:=⟨G,2,none⟩) bY).trans O;have k3:=(ab.out.cell (p:=⟨G,3,none⟩) bY).trans cN;have k4:=(ab.out.cell (p:=⟨xb,1,none⟩) dh).trans gi;clear gc))
       have dr:=aa (aB.out.keep (ab.out.block _ aB.out.map.lt));have fY:=aa (bG.out.below ab.out);have fA:=aa (b9.out.below ab.out);have f6:=aa (bL.out.below ab.out);have c9:=bK bY ab.out.size;clear aB bG b9 bL aM cM bS O cN bY dh gi bv ek a3 ab k4;cases bu with
       |false=>
        have aL:Hid (e3 (g2,Y) x=(g2,Y)):=by unfold Hid e3;rw[if_pos (.inr (.inr cD.out))]
        go_wp2_with fail;go_roundw;case rel=>exact⟨j+1,l2,g2,Y,by omega,by go_num,by rw[a5.out,aL.out],dr.out,a4.out,fY.out,bJ.out,fA.out,f6.out⟩
        case measure=>simp[intOf];omega
       |true=>
        simp only[Bool.not_true];have bv:=(aS.look mP (w:=fb) dr.out.map (x.a6:Int) 117 118 (ag none 0 0) oH (fun W=>by kernel_rfl)).1;rw[eb.out]at bv;go_wp2_with fail;go_loopw[8] (fun lv iT=>∃(k:Nat) (eY:Value),k<=J.length/\eY=lv/\e6 cX 4 a9 eY (J.drop k)/\(∀i (aO:i<J.length),i<k->fX Y.ot J[i]=false)/\Below fb.heap.size fb iT) (fun lv _=>vv lv);case atStart=>exact⟨0,_,aW _,rfl,by simpa using f2.out,fun i aO h=>(Nat.not_lt_zero _ h).elim,aD _ _⟩
        case round=>
         obtain⟨k,eY,iB,rfl,bC,dX,bl⟩:=hrel;clear bv;have ax:ao a9 wr:=fA.out.below bl;have e1:=(bl.cell (p:=⟨G,0,none⟩) c9).trans dY;have e2:=(bl.cell (p:=⟨G,1,none⟩) c9).trans k1;have e4:=(bl.cell (p:=⟨G,2,none⟩) c9).trans k2;have gW:=(bl.cell (p:=⟨G,3,none⟩) c9).trans k3;have cv:=bK c9 bl.size;have b0:=aa (dr.out.keep (bl.block _ dr.out.map.lt));have aQ:=aa (fY.out.below bl);have dB:=aa ax;have cd:=aa (f6.out.below bl);by_cases eN:k<J.length
         ·have eE:J.drop k=J[k]::J.drop (k+1):=List.drop_eq_getElem_cons eN;have hy:J[k]∈J:=aK eN;have cq:=cA.out _ hy;have ct:=ff.out _ cq.1;have bE:J[k].size=x.size:=cs.out _ cq.1 (by have:=cq.2;omega);obtain⟨-,ce,c3,rfl,eM⟩:=id bC;obtain⟨bV,eP⟩:∃bV,bV=(J.drop k).length:=⟨_,rfl⟩
          rw[<-eP]at bC⊢;have c8:=bC;rw[eE]at c8;obtain⟨gq,iy,b3,aG,rfl,dg,i',hc,gy⟩:=e6.cut (encA:=cX) (c:=4) (fun z=>rfl) c8 ax (by decide);have d0:=hc 0 _ rfl;have bN:=hc 1 _ rfl;have bO:=hc 2 _ rfl;have bR:=hc 3 _ rfl;simp only[dz]at d0;have hl:=fg.out.lr;have a3:=aa fun w' (b':Below wr.heap.size wr w')=>G6 (aQ.out.below b') bJ.out J[k] ct.1 ct.2.1 ct.2.2.2 hl;unfold o1 at a3;obtain⟨bu,bT⟩:∃bu,fX Y.ot J[k]=bu:=⟨_,rfl⟩
          rw[bT]at a3;have ea:Hid (∀i (aO:i<J.length),i<k->fX Y.ot J[i]=false):=dX;have dv:=aa bT;have di:=aa eE;obtain⟨y,eX⟩:∃y,y=J[k]:=⟨_,rfl⟩
          have eD:=aa eX;rw[<-eX]at cq ct bE a3 d0 bN bO bR dv di c8;have h0:=aa eP;have gh:=aQ.out.ci.c0;have dh:=aQ.out.ci.lt;have en:=aa c8;have dG:=aa gy;have d3:=aa bl;have gP:0<bV:=by omega
          have iJ:decide ((0:Int)<(bV:Int))=true:=decide_eq_true (by omega);have iK:(0:Int)<(bV:Int):=by omega
          have iL:decide (0<bV)=true:=decide_eq_true gP;have i1:=aa cq;have il:=aa ct;have im:=aa bE;have d8:=aa gq;clear eE hy bT eX eP hc gy bC c8 dX bl ax cq ct bE gq;go_wp2_with fail
          go_region_held3(fun w'=>w'.cell? ⟨b3,aG,none⟩=some (af ae y.module)/\w'.cell? ⟨b3,aG+1,none⟩=some (af ae y.number)/\w'.cell? ⟨b3,aG+2,none⟩=some (af ae y.size)/\w'.cell? ⟨b3,aG+3,none⟩=some (af ae y.a6)/\w'.cell? ⟨xb,0,none⟩=some (az (some ⟨so,0,none⟩))) (first|(go_keep;done)|with_reducible exact⟨gA,gB,gC,gD,gF⟩) (first
           |(go_at_call 66;refine(a3.out _ (by exact(aD _ _).drew)).mono ?_;rintro e iP ⟨rfl,f9⟩;have ab:=aa (((aD wr.heap.size wr).drew).trans f9);have gA:=(ab.out.cell (p:=⟨b3,aG,none⟩) dg).trans d0;have gB:=(ab.out.cell (p:=⟨b3,aG+1,none⟩) dg).trans bN;have gC:=(ab.out.cell (p:=⟨b3,aG+2,none⟩) dg).trans bO;have gD:=(ab.out.cell (p:=⟨b3,aG+3,none⟩) dg).trans bR;have gF:=(ab.out.cell (p:=⟨xb,0,none⟩) dh).trans gh;clear f9))
          have d5:=aa (b0.out.keep (ab.out.block _ b0.out.map.lt));have fV:=aa (aQ.out.below ab.out);have fx:=aa (dB.out.below ab.out);have f3:=aa (cd.out.below ab.out);have c6:=(ab.out.cell (p:=⟨G,0,none⟩) cv).trans e1;have gQ:=(ab.out.cell (p:=⟨G,1,none⟩) cv).trans e2;have gR:=(ab.out.cell (p:=⟨G,2,none⟩) cv).trans e4;have iD:=(ab.out.cell (p:=⟨G,3,none⟩) cv).trans gW;have bZ:=bK cv ab.out.size;have d2:=aa (d3.out.trans (ab.out.mono d3.out.size));obtain⟨bd,eO⟩:∃bd,bd=(J.drop (k+1)).length:=⟨_,rfl⟩
          rw[<-eO]at dG d8 iy;have hP:=aa eO;clear eO h0 gA gB gC gD gF e1 e2 e4 gW cv d3 cd dB aQ b0 ab a3 gh dh d0 bN bO bR dg iJ iK iL gP eM;obtain rfl:bV=bd+1:=d8.out;clear d8;cases bu with
          |false=>
           simp only[Bool.not_false];have iM:(1:Int)<=(bd:Int)+1:=by omega
           have iN:(bd:Int)+1<=(c3:Int):=by omega
           have u8:(1:Int)<=(c3:Int):=by omega
           have fw:Hid (∀i (aO:i<J.length),i<k+1->fX Y.ot J[i]=false):=fun i aO h=>by
            by_cases e:i=k;·subst e;rw[<-eD.out];exact dv.out
            ·exact ea.out i aO (by omega)
           by_cases ix:c3=1
           ·subst ix;obtain rfl:bd=0:=by omega
            go_wp2_with fail;go_roundw;case rel=>exact⟨k+1,_,by omega,rfl,dG.out _ (.inl (kA (by have:=hP.out;omega))),fw.out,d2.out⟩
            case measure=>simp[vv]
           ·have ja:¬(c3:Int)=1:=by omega
            go_wp2_with fail;go_roundw;case rel=>exact⟨k+1,_,by omega,rfl,dG.out _ (.inr rfl),fw.out,d2.out⟩
            case measure=>simp[vv]
          |true=>
           simp only[Bool.not_true];obtain⟨dN,gx,gI,gm⟩:∃ba,(lA 117 (.map (some (w.heap.size+1+1))) (af ae (x.a6:Int)) (ag (some ⟨b3,aG,none⟩) (bd+1) c3)).run ai iP= .ok () ba/\aS jZ ba (w.heap.size+1+1) (aY l2 (x.a6:Int) (ag (some ⟨b3,aG,none⟩) (bd+1) c3))/\iP.grownBy ba (some (w.heap.size+1+1)):=⟨_,aS.put mP d5.out.map (x.a6:Int) _ 117 118 oH⟩
           have aJ:Tu (fun b=>b=w.heap.size+1+1) iP dN:=(Tu.refl _ _).grown gm fun k e=> .inl (aU e).symm;have bX:∀b,dF V xb b->b≠w.heap.size+1+1:=fun b e O=>by have:=a8.out b e;omega
           have em:=aa (fV.out.tu aJ fun b e=>⟨aN.out b (by omega),fun O=>bX b (.inr O) e,fun k O=>bX b (.inl ⟨k,O⟩) e⟩);have dA:Hid (ao a9 dN):=aJ.I fx.out fun b e=>by subst e;rw[cB.out _ (by omega)];exact aN.out _ (by omega)
           have eo:Hid (Tu (dF V xb) w dN):=f3.out.step aJ fun k e=> .inr (by omega);have dn:=aa (d5.out.put (x.a6:Int) (y::J.drop (k+1)) _ gI en.out);have cU:¬G=w.heap.size+1+1:=by have:=fU.out;omega
           have r0:=(dc (a:=⟨G,0,none⟩) (aJ.block G bZ cU)).trans c6;have r1:=(dc (a:=⟨G,1,none⟩) (aJ.block G bZ cU)).trans gQ;have r2:=(dc (a:=⟨G,2,none⟩) (aJ.block G bZ cU)).trans gR;have gX:=(dc (a:=⟨G,3,none⟩) (aJ.block G bZ cU)).trans iD;have fd:=bK bZ aJ.size
           have d7:Hid (e3 (g2,Y) x=(aY g2 (x.a6:Int) (y::J.drop (k+1)),(aw x.size).foldl (fun s i=>du s x.module (x.number+i) y.module (y.number+i)) Y)):=by
            unfold Hid e3
            rw[if_neg (by
             rintro(e|e|e);·exact cf e
             ·exact dU (by rw[aP.out.symm.trans e];rfl)
             ·exact KK (cD.out.symm.trans e))]
            have e:=zP (fun o=> !fX Y.ot o) J k iB (fun i aO=>congrArg Bool.not (ea.out i (by omega) aO)) (.inr ⟨eN,by rw[<-eD.out];exact congrArg Bool.not dv.out⟩);simp only;rw[aP.out,e,di.out]
           have d6:Hid (kx A.1 (aY g2 (x.a6:Int) (y::J.drop (k+1)))):=a4.out.set _ _ fun o ci=>cA.out o (by rw[<-di.out]at ci;exact List.mem_of_mem_drop ci);have cu:=il.out;have bE:=im.out;have cj:=dT.1;have tf:(nt.getD x.module default).size<=1000000:=by rw[getD_at cj];exact fh.out.lr _ (aK cj)
           have ty:(ot.getD y.module default).size<=1000000:=by rw[getD_at cu.1];exact fg.out.lr _ (aK cu.1)
           obtain⟨bz,eJ⟩:∃M,M=bd+1:=⟨_,rfl⟩
           rw[<-eJ]at gx⊢;have iM:decide ((bz:Int)=0)=false:=decide_eq_false (by omega);have iN:((bz:Int)==0)=false:=by rw[beq_eq_false_iff_ne];omega
           have u8:(bz==0)=false:=by rw[beq_eq_false_iff_ne];omega
           have iO:¬bz=0:=by omega
           have iI:¬(bz:Int)=0:=by omega
           have ju:(0:Int)<(bz:Int):=by omega
           have jv:0<bz:=by omega
           have iW:=aa eJ;clear eJ;clear d5 fV fx f3 c6 gQ gR gI gm aJ bX cU ea dv di eD cA dG a4 aP eb cD d2;go_wp2_with fail;go_loopw[99] (fun i g6=>∃(z:Nat),z<=x.size/\i=af ae z/\bH h g6 B xb so sn budget V ((aw z).foldl (fun s i=>du s x.module (x.number+i) y.module (y.number+i)) Y)/\Tu (dF V xb) dN g6) (fun i _=>x.size-(intOf i).toNat);case atStart=>exact⟨0,aW _,rfl,em.out,Tu.refl _ _⟩
           case round=>
            obtain⟨z,jk,rfl,q,ak⟩:=hrel;have bB:Hid (cw ((aw z).foldl (fun s i=>du s x.module (x.number+i) y.module (y.number+i)) Y) ot nt):=hX (P:=fun t=>cw t ot nt) _ _ bJ.out fun t p _ h=>h.node _ _ _ _;by_cases hz:z<x.size
            ·have aL:Hid ((aw (z+1)).foldl (fun s i=>du s x.module (x.number+i) y.module (y.number+i)) Y=du ((aw z).foldl (fun s i=>du s x.module (x.number+i) y.module (y.number+i)) Y) x.module (x.number+z) y.module (y.number+z)):=by unfold Hid;rw[List.range_succ,dH];rfl
             generalize(aw z).foldl (fun s i=>du s x.module (x.number+i) y.module (y.number+i)) Y=jo at*;have ax:ao a9 wr:=ak.I dA.out fun b e=>by rw[cB.out b (by have:=a8.out b e;omega)];exact d4.out b e
             obtain⟨i6,jm,cQ,jI,dP,c1,c2,c3⟩:=e6.sub en.out ax 0 (by simp);simp only[aC,cx,and_true]at cQ;obtain⟨iv,iw⟩:=cQ;subst iv;subst iw;simp only[dJ,Kg,dz]at dP c1 c2 c3;have cZ:¬dF V xb G:=fun e=>by have:=a8.out _ e;have:=fU.out;omega
             have a0:=(dc (a:=⟨G,0,none⟩) (ak.block G fd cZ)).trans r0;have ip:=(dc (a:=⟨G,1,none⟩) (ak.block G fd cZ)).trans r1;have g7:=bK fd ak.size;obtain⟨fR,eK⟩:∃N,N=x.number+z:=⟨_,rfl⟩
             obtain⟨fS,eL⟩:∃N,N=y.number+z:=⟨_,rfl⟩
             rw[<-eK,<-eL]at aL;have w1:ae.wrap ((x.number:Int)+(z:Int))=(fR:Int):=by rw[bA (by omega)];omega
             have w2:ae.wrap ((y.number:Int)+(z:Int))=(fS:Int):=by rw[bA (by omega)];omega
             have ht:=aa fun w' (b':Below wr.heap.size wr w')=>uB (q.below b') x.module fR y.module fS (by rw[bB.out.rl];exact cj) (by rw[bB.out.gZ _ cj];omega) (by rw[bB.out.nl];exact cj) (by rw[bB.out.gY _ cj];omega) (by rw[bB.out.ol];exact cu.1) (by rw[bB.out.mR _ cu.1];omega);have cd:=aa ak
             have hC:Hid (∀w',Tu (dF V xb) wr w'->w'.cell? ⟨G,0,none⟩=some (af ae x.module)/\w'.cell? ⟨G,1,none⟩=some (af ae x.number)/\w'.cell? ⟨b3,aG,none⟩=some (af ae y.module)/\w'.cell? ⟨b3,aG+1,none⟩=some (af ae y.number)):=fun w' t=>by
              have iC:ao a9 w':=t.I ax fun b e=>by rw[cB.out b (by have:=a8.out b e;omega)];exact d4.out b e
              obtain⟨bb2,jn,cQ,-,dP,c1,-,-⟩:=e6.sub en.out iC 0 (by simp);simp only[aC,cx,and_true]at cQ;obtain⟨rfl,rfl⟩:=cQ;simp only[dJ,Kg,dz]at dP c1;exact⟨(dc (a:=⟨G,0,none⟩) (t.block G g7 cZ)).trans a0,(dc (a:=⟨G,1,none⟩) (t.block G g7 cZ)).trans ip,dP,c1⟩
             have iO:(0:Int)<=(z:Int):=by omega
             have iI:(z:Int)<(x.size:Int):=by omega
             have jx:(0:Int)<(bz:Int):=by omega
             have iX:=aa eK;have iY:=aa eL;have i2:=aa cu;have io:=aa bE;clear q ak ax bB cZ r0 r1 r2 gX eK eL c2 c3 cu bE;go_wp2_with fail
             go_region_held3(fun w'=>w'.cell? ⟨G,0,none⟩=some (af ae x.module)/\w'.cell? ⟨G,1,none⟩=some (af ae x.number)/\w'.cell? ⟨b3,aG,none⟩=some (af ae y.module)/\w'.cell? ⟨b3,aG+1,none⟩=some (af ae y.number)) (first|(go_keep;done)|with_reducible exact⟨dY,k1,k2,k3⟩) (first
              |(go_at_call 56;refine(ht.out _ (by exact(aD _ _).drew)).mono ?_;rintro e jz ⟨rfl,gV,g4⟩;have h6:=aa gV;have tt:=(Tu.refl (dF V xb) wr).drew.trans (g4.mono fun b e=> .inl (by rcases e with e|e|e<;>exact⟨_,e⟩));obtain⟨dY,k1,k2,k3⟩:=hC.out _ tt;have ia:=aa (cd.out.trans tt);clear gV g4 tt))
             all_goals
              go_wp2_with fail;go_roundw;case rel=>exact⟨z+1,by omega,by go_num,by rw[aL.out];exact h6.out,ia.out⟩
              case measure=>simp[intOf];omega
            ·obtain rfl:z=x.size:=by omega
             have g8:=aa q;have g9:=aa ak;have hb:Hid (ao a9 wr):=ak.I dA.out fun b e=>by rw[cB.out b (by have:=a8.out b e;omega)];exact d4.out b e
             have hg:=aa (dn.out.keep (ak.block _ dn.out.map.lt fun e=>by have:=a8.out _ e;omega));have io:=aa bE;clear q ak r0 r1 r2 gX bE;go_wp2_with fail;go_roundw;case rel=>exact⟨j+1,_,_,_,by omega,by go_num,by rw[a5.out,d7.out],hg.out,d6.out,g8.out,bB.out,hb.out,eo.out.trans g9.out⟩
             case measure=>simp[intOf];omega
         ·obtain rfl:k=J.length:=by omega
          rw[K2]at bC;obtain⟨-,ce,c3,rfl,eM⟩:=id bC;simp only[cL]at bC eM⊢
          have d7:Hid (e3 (g2,Y) x=(aY g2 (x.a6:Int) [],Y)):=by
           unfold Hid e3
           rw[if_neg (by
            rintro(e|e|e);·exact cf e
            ·exact dU (by rw[aP.out.symm.trans e];rfl)
            ·exact KK (cD.out.symm.trans e))]
           have e:=zP (fun o=> !fX Y.ot o) J J.length (kI _) (fun i aO=>congrArg Bool.not (dX i aO aO)) (.inl rfl);simp only;rw[aP.out,e,K2]
          have d6:Hid (kx A.1 (aY g2 (x.a6:Int) [])):=a4.out.set _ _ fun o ci=>by cases ci
          have PM:=aa fun n=>aS.put mP (w:=wr.drewN n) (b0.out.map.keep rfl) (x.a6:Int) (ag ce 0 c3) 117 118 oH;have iZ:=fun n=>(PM.out n).1;have aJ:∀n,Tu (fun b=>b=w.heap.size+1+1) wr (sG (wr.drewN n) (w.heap.size+1+1) (cG jZ (aY l2 (x.a6:Int) (ag ce 0 c3)))):=fun n=>((Tu.refl _ _).drewN n).grown (PM.out n).2.2 fun k e=> .inl (aU e).symm;have bX:∀b,dF V xb b->b≠w.heap.size+1+1:=fun b e O=>by have:=a8.out b e;omega
          have em:=aa fun n=>aQ.out.tu (aJ n) fun b e=>⟨aN.out b (by omega),fun O=>bX b (.inr O) e,fun k O=>bX b (.inl ⟨k,O⟩) e⟩
          have dA:Hid (∀n,ao a9 (sG (wr.drewN n) (w.heap.size+1+1) (cG jZ (aY l2 (x.a6:Int) (ag ce 0 c3))))):=fun n=>(aJ n).I dB.out fun b e=>by subst e;rw[cB.out _ (by omega)];exact aN.out _ (by omega)
          have eo:Hid (∀n,Tu (dF V xb) w (sG (wr.drewN n) (w.heap.size+1+1) (cG jZ (aY l2 (x.a6:Int) (ag ce 0 c3))))):=fun n=>cd.out.step (aJ n) fun k e=> .inr (by omega);have dn:=aa fun n=>b0.out.put (x.a6:Int) [] _ (PM.out n).2.1 (e6.nil a9 ce c3);clear bC aJ bX dX bl ax b0 aQ dB cd PM e1 e2 e4 cA aP eb cD;go_wp2_with fail;go_quiet(fail);go_wp2_with fail;go_roundw;case rel=>exact⟨j+1,_,_,_,by omega,by go_num,by rw[a5.out,d7.out],dn.out _,d6.out,em.out _,bJ.out,dA.out _,eo.out _⟩
          case measure=>simp[intOf];omega
    ·obtain rfl:j=D.1.length:=by omega
     rw[cP]at cV;have hE:=aa (q);have hG:=aa ak;have hH:Hid (lc (aX T) (aj 0 ot) (aj 0 nt) s=Y):=by unfold Hid;rw[hY.out,cV]
     clear cV g eH q sh ax ak;go_wp2_with fail;refine bodyPost_end (results_none rfl _ _ _) rfl ?_;exact⟨rfl,by rw[hH.out];exact hE.out,hG.out⟩
end
end Go.Proofs.YtdplggpbgommnaaGreatDoor
