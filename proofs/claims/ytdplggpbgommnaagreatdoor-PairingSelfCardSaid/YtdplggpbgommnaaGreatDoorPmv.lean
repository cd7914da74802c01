/- pairing.pairMoved. -/
import Derived.Test.YtdplggpbgommnaaGreatDoorG29
open Bool renaming noConfusion→KK
open Go renaming heap_alloc_old→oi
open Go.Addr.mk renaming injEq→cx
open Go.Instr renaming mapUpdate→lA
open Go.IntKind renaming i64→ae
open Go.Lib renaming hid→aa
open Go.Proofs.Tryz renaming prog→ai,underlying117→oH
open Go.RowKit.Below renaming refl→aD
open Go.Value renaming int→af,ownBlock→bW,pointer→az,slice→ag
open Go.World renaming cell?_of_block→dc
open List renaming drop_length→mu,eq_nil_of_length_eq_zero→kA,foldl_append→dH,getElem?_cons_succ→bQ,getElem?_cons_zero→bc,getElem?_toArray→bw,getElem_cons_zero→dJ,getElem_mem→aK,length_nil→cL,range→aw,take_length→cP,take_succ_eq_append_getElem→mc
open List.Pairwise renaming nil→B1
open Nat renaming add_zero→dz,le_refl→an,le_trans→b5,lt_of_lt_of_le→bK,zero_le→aW,zero_mul→gn
open Option.some renaming injEq→aC,inj→aU
set_option maxRecDepth 100000
set_option maxHeartbeats 8000000
namespace Go.Proofs.YtdplggpbgommnaaGreatDoor
open Go.RowKit
abbrev jZ(n:Int):Value:=af ae n
def vv:Value→Nat| ag _ n _=>n|_=>0
section
variable {h:Hp} {w:World} {B xb so sn:Nat} {budget:Int} {V:eL→Value} {s:bp} {ot nt:List Tree} {mr nr:List Nat} {kv dR:Value}
theorem HE(T:Lib.PrintTabs)(N:Nat)(q:bH h w B xb so sn budget V s)(dX:Tb T N w)(_hNB:N≤B)(_hB:B≤w.heap.size)(K:cC h so ot mr (V .om) (V .oa) kv)(fw:cC h sn nt nr (V .nm) (V .na) dR)(sh:cw s ot nt)(b1:e7 ot)(b2:e7 nt)(gz:pa ot)(gB:pa nt):Calls ai 28 #[az (some ⟨xb,0,none⟩)] w fun e w'=>e= .returned (.tuple #[])∧bH h w' B xb so sn budget V (lc (aX T) (aj 0 ot) (aj 0 nt) s)∧Tu (dF V xb) w w':=by
 have Q:=aa q;have X:=aa q.ci;have c6:=X.out.c0;have bY:=X.out.lt
 have a4:Hid (∀b,dF V xb b→b<w.heap.size):=fun b e=>by
  rcases e with⟨r,e⟩|rfl;·exact((q.rows.own r).lt b e).2
  ·exact q.ci.lt
 have d2:Hid (∀b,dF V xb b→h b=none):=fun b e=>by
  rcases e with e|rfl;·exact(q.rG b e).1
  ·exact q.xn
 have iW:= @run_makeMap ai;have b3:Below w.heap.size w (((w.alloc (.map #[] 0)).alloc (.cells #[.map (some w.heap.size)] 116)).alloc (.map #[] 0)):=(((aD _ _).alloc (an _) _).alloc (by simp) _).alloc (by simp;omega) _;have ix:=(b3.cell (p:=⟨xb,0,none⟩) bY).trans c6;have es:Hid (Has (((w.alloc (.map #[] 0)).alloc (.cells #[.map (some w.heap.size)] 116)).alloc (.map #[] 0)) (w.heap.size+1) #[.map (some w.heap.size)]):=(Has.kY w (.map #[] 0) #[.map (some w.heap.size)] 116).alloc _;have fC:Hid (aS j8 (((w.alloc (.map #[] 0)).alloc (.cells #[.map (some w.heap.size)] 116)).alloc (.map #[] 0)) w.heap.size (hB [])):=by unfold Hid aS;rw[oi _ _ (by simp;omega),oi _ _ (by simp),heap_alloc_new];rfl
 have fE:Hid (aS jZ (((w.alloc (.map #[] 0)).alloc (.cells #[.map (some w.heap.size)] 116)).alloc (.map #[] 0)) (w.heap.size+1+1) []):=by have:=aS.new jZ ((w.alloc (.map #[] 0)).alloc (.cells #[.map (some w.heap.size)] 116));unfold Hid;simpa using this
 have aL:Hid (∀b,w.heap.size≤b→h b=none):=fun b aQ=>bI q.I b aQ;have g5:=aa b3;have aO:=aa (q.below b3);have ep:=aa (dX.below (b3.mono dX.1));have iD:((((w.alloc (.map #[] 0)).alloc (.cells #[.map (some w.heap.size)] 116)).alloc (.map #[] 0))).heap.size=w.heap.size+3:=by simp
 have dw:=aa gz;have dA:=aa gB;have ho:=aa K;have hq:=aa fw;have hJ:=aa sh;have i5:=dX.1;have hU:=b1.dS;have hV:=b2.dS;have fc:=aa b1;have fd:=aa b2;clear q dX K fw gz gB b3 sh b1 b2;go_enter Tryz.func28,Tryz.ntmps28;go_wp2_with fail;generalize(((w.alloc (.map #[] 0)).alloc (.cells #[.map (some w.heap.size)] 116)).alloc (.map #[] 0))=w3 at*;clear ix c6;refine(yL T N aO.out.I ep.out ho.out (w.heap.size+1) w.heap.size [] (by omega) (by omega) (by omega) (aL.out _ (an _)) es.out fC.out dw.out.short (by have:=dw.out.sum;simp;omega) (fun d eI=>b5 (dw.out.num d eI) (by omega)) hU).mono ?_;rintro e ad ⟨lv,rfl,cj⟩;have dZ:Hid ((dk (aX T) (aj 0 ot) []).1.length≤200000∧(dk (aX T) (aj 0 ot) []).2.length≤200000):=by have:=rH (ck:=aX T) (aj 0 ot) ([],[]);have:=dw.out.sum;simp only[cL]at*;unfold Hid dk;omega
 have fb:Hid (∀x∈(dk (aX T) (aj 0 ot) []).1,x.J<ot.length∧0<x.size∧1≤x.number∧x.number+x.size≤(ot.getD x.J default).size):=rN ot [];have g':Hid (∀x∈(dk (aX T) (aj 0 ot) []).1,∀y∈(dk (aX T) (aj 0 nt) (dk (aX T) (aj 0 ot) []).2).1,x.a6=y.a6→x.size=y.size):=GY (GZ T) _ _;have hw:Hid (lc (aX T) (aj 0 ot) (aj 0 nt) s=((dk (aX T) (aj 0 nt) (dk (aX T) (aj 0 ot) []).2).1.foldl e3 ((dk (aX T) (aj 0 ot) []).1.foldl gH [],s)).2):=rfl;generalize dk (aX T) (aj 0 ot) []=O at*
 have cl:Tu (fun k=>k=w.heap.size) w3 ad:=cj.tu.mono fun k e=>by
  rcases e with e|e;·simp[bW]at e
  ·exact e
 have nx:∀b,dF V xb b→¬b=w.heap.size:=fun b e G=>by have:=a4.out b e;omega
 have dB:=aa (aO.out.tu cl fun b e=>⟨aL.out b (by omega),fun G=>nx b (.inr G) e,fun k G=>nx b (.inl ⟨k,G⟩) e⟩);have f5:=aa (es.out.tu cl (by omega));have fD:=aa cj.map;have fF:=aa (fE.out.tu cl (by omega));have eq:=aa (cj.tb ep.out (by simp[bW]) (by omega));have hE:=aa cj.own;have i2:=cl.size;have fW:Hid (e6 cX 4 (h.fr w3.heap.size ad) lv O.1):=by unfold Hid;exact cj.own.uY (by have:=dZ.out;omega)
 have fx:Hid (h.le (h.fr w3.heap.size ad)):=Hp.gQ dB.out.I;have ec:Hid (ao (h.fr w3.heap.size ad) ad):=dB.out.I.fr;have dr:Hid (∀b,b<w3.heap.size→(h.fr w3.heap.size ad) b=h b):=fun b aQ=>by unfold Hp.fr;rw[if_pos aQ]
 generalize h.fr w3.heap.size ad=aP at*;have fh:Hid (cY jZ 121 4 cX ad aP ad.heap.size (w.heap.size+1+1) ([]:List (Int×List bq)) []):=⟨fF.out,rfl,fun i aM=>by simp at aM,B1⟩
 have f1:Hid (Tu (dF V xb) w ad):=((Tu.refl _ _).below g5.out).step cl fun k e=> .inr (by omega);obtain⟨-,iI,c4,rfl,iT⟩:=fW.out;clear cj cl nx aO es fC fE ep hE;have iK:=dZ.out.1;go_wp2_with fail;go_loopw[5,21,22,23,24,25,26,27,28,29,30,31,32,33,34,35,36,37,38] (fun _ i _ _ _ _ _ _ _ _ _ _ _ _ _ _ _ _ _ wr=>∃(j:Nat) (l:List (Int×Value)),j≤O.1.length∧i=af ae j∧cY jZ 121 4 cX wr aP ad.heap.size (w.heap.size+1+1) ((O.1.take j).foldl gH []) l∧(∀q∈(O.1.take j).foldl gH [],q.2.length≤j)∧Tu (fun k=>k=w.heap.size+1+1) ad wr) (fun _ i _ _ _ _ _ _ _ _ _ _ _ _ _ _ _ _ _ _=>O.1.length-(intOf i).toNat);case atStart=>exact⟨0,[],aW _,rfl,fh.out,fun q dQ=>by simp at dQ,Tu.refl _ _⟩
 case round=>
  obtain⟨j,l,h5,rfl,g,cf,ab⟩:=hrel;by_cases hj:j<O.1.length
  ·have ak:ao aP wr:=ab.I ec.out fun b e=>by subst e;rw[dr.out _ (by omega)];exact aL.out _ (by omega)
   obtain⟨b,h9,rfl,e',bz,bL,bN,bO⟩:=fW.out.sub ak j hj;have a3:Hid ((O.1.take (j+1)).foldl gH []=gH ((O.1.take j).foldl gH []) O.1[j]):=by unfold Hid;rw[mc hj,dH];rfl
   generalize(O.1.take j).foldl gH []=rest at*;have dU:O.1[j]∈O.1:=aK hj;have ar:=fb.out _ dU;generalize O.1[j]=x at*;have it:(0:Int)≤(j:Int):=by omega
   have iu:(j:Int)<(O.1.length:Int):=by omega
   have dm:=aa g;have aN:=aa cf;have en:=aa ab;have fr:=aa ak;clear g cf ab ak;by_cases ce:3≤x.size
   ·have e2:(3:Int)≤(x.size:Int):=by omega
    go_wp2_with fail;have bJ:=aa (en.out.alloc (.cells #[af ae x.J,af ae x.number,af ae x.size,af ae x.a6] 121));have am:=aa (dm.out.tu ((Tu.refl (fun _=>False) wr).alloc (.cells #[af ae x.J,af ae x.number,af ae x.size,af ae x.a6] 121)) id (fun k q=>q.elim));have b0:=aa (fr.out.alloc (.cells #[af ae x.J,af ae x.number,af ae x.size,af ae x.a6] 121));have aJ:=aa (Has.new wr #[af ae x.J,af ae x.number,af ae x.size,af ae x.a6] 121);have fQ:Hid (∀b,((aT l (x.a6:Int)).getD (ag none 0 0)).ownBlock=some b→b<wr.heap.size):=fun b e=>((dm.out.row (x.a6:Int)).lt b e).2;clear dm en fr bz bL bN bO e';generalize wr.alloc (.cells #[af ae x.J,af ae x.number,af ae x.size,af ae x.a6] 121)=W at*;generalize wr.heap.size=A at*;have cF:=aJ.out.cl 0;have bR:=aJ.out.cl 1;have G:=aJ.out.cl 2;have cM:=aJ.out.cl 3;simp only[bw,bc,bQ]at cF bR G cM;have bX:=aJ.out.lt;have bd:=(aS.look mP (w:=W.drew) (am.out.map.U rfl) (x.a6:Int) 117 118 (ag none 0 0) oH (fun W=>by kernel_rfl)).1;have g4:=aa (am.out.tu ((Tu.refl (fun _=>False) W).alloc (.cells #[af ae x.J,af ae x.number,af ae x.size,af ae x.a6] 121)) id (fun k q=>q.elim));have hs:=(aS.look mP (w:=(W.alloc (.cells #[af ae x.J,af ae x.number,af ae x.size,af ae x.a6] 121)).drew) (g4.out.map.U rfl) (x.a6:Int) 117 118 (ag none 0 0) oH (fun W=>by kernel_rfl)).1
    have cf:((aT rest (x.a6:Int)).getD []).length≤j:=by
     unfold aT;cases hp:bm rest (x.a6:Int)with
     |none=>simp
     |some q=>simp only[Option.bind_some,List.getElem?_eq_getElem (fv hp),Option.map_some,Option.getD_some];exact aN.out _ (aK _)
    have i3:ad.heap.size≤W.heap.size:=bJ.out.size;have ik:ad.heap.size≤W.heap.size+1:=by omega
    have cD:=aa (am.out.row (x.a6:Int));obtain⟨dE,dN,eA⟩:=cD.out.shape;rw[eA]at bd hs cD fQ;generalize gh:((aT rest (x.a6:Int)).getD []).length=aV at*;have fg:=aa eA;have hD:Hid (∀b,(ag dE aV dN).ownBlock=some b→b≠w.heap.size+1+1):=fun b e=>by have:=(cD.out.lt b e).1;omega
    have hh:=aa gh;clear eA gh
    go_region_law(first
     |(refine gS wy (by rfl) _ _ (by rfl) (B:=ad.heap.size) (St.dN ((b0.out.alloc _).drewN _) (by simpa using ik)) _ aV (((aT rest (x.a6:Int)).getD []).flatMap cX) (by rfl) ((cD.out.alloc _).drewN _) ⟨W.heap.size,0,none⟩ 1 1 [af ae x.J,af ae x.number,af ae x.size,af ae x.a6] (by rfl) (by rfl) (cK _ _ _ _ (by simp)) (cm _ rfl) (by omega) (by omega) ?_;intro cQ cg e4 ib eW gc f8;have dY:Tu (fun k=>(ag dE aV dN).ownBlock=some k) W e4:=(((Tu.refl _ W).alloc _).drewN _).grown gc (fun k e=> .inl e);have fB:=aa (am.out.map.tu dY (fun e=>hD.out _ e rfl));have e8:=aJ.out.tu dY (fun e=>Nat.lt_irrefl _ (fQ.out _ e));have c3:=e8.cl 3;simp only[bw,bc,bQ]at c3;have je:=e8.lt;clear e8;obtain⟨a8,gi,gC,eB⟩:∃a8,(lA 117 (.map (some (w.heap.size+1+1))) (af ae (x.a6:Int)) (ag (some ⟨cQ,0,none⟩) (aV+1) cg)).run ai e4= .ok () a8∧aS jZ a8 (w.heap.size+1+1) (aY l (x.a6:Int) (ag (some ⟨cQ,0,none⟩) (aV+1) cg))∧e4.grownBy a8 (some (w.heap.size+1+1)):=⟨_,aS.put mP fB.out (x.a6:Int) _ 117 118 oH⟩;have f4:=aa ((dY.mono (S':=fun k=>(ag dE aV dN).ownBlock=some k∨k=w.heap.size+1+1) (fun k e=> .inl e)).grown eB (fun k e=> .inl (.inr (aU e).symm)));have hG:=aa (eW.grown eB (fun b aQ e=>by have h1:=(eW.lt b aQ).1;have h2:=aU e;omega));have hu:=aa gC;have g8:Hid ((ag (some ⟨cQ,0,none⟩) (aV+1) cg).ownBlock=(ag dE aV dN).ownBlock∨∃b,(ag (some ⟨cQ,0,none⟩) (aV+1) cg).ownBlock=some b∧W.heap.size≤b):=(by rcases f8 with e|e;exact .inl e;exact .inr ⟨_,e,by simp⟩);clear ib eW gc f8 dY gC eB fB))
    all_goals
     have hO:=aa (bJ.out.step f4.out fun k e=>by
      rcases e with e|e;·exact .inr (cD.out.lt k e).1
      ·exact .inl e)
     have hl:Hid (cY jZ 121 4 cX a8 aP ad.heap.size (w.heap.size+1+1) (aY rest (x.a6:Int) ((aT rest (x.a6:Int)).getD []++[x])) (aY l (x.a6:Int) (ag (some ⟨cQ,0,none⟩) (aV+1) cg))):=by
      refine am.out.step (by omega) (x.a6:Int) _ _ hu.out ?_ (by rw[fg.out];exact g8.out) (fun b aQ h1 h2=>f4.out.block b aQ fun e=> ?_)
      ·have bR:((aT rest (x.a6:Int)).getD []++[x]).length=aV+1:=by rw[List.length_append,hh.out];rfl
       have G:((aT rest (x.a6:Int)).getD []++[x]).flatMap cX=((aT rest (x.a6:Int)).getD []).flatMap cX++[af ae x.J,af ae x.number,af ae x.size,af ae x.a6]:=by simp[cX]
       rw[bR,G];exact hG.out
      ·rw[fg.out]at h2;rcases e with e|e;·exact h2 e
       ·exact h1 e
     have aG:Hid (gH rest x=aY rest (x.a6:Int) ((aT rest (x.a6:Int)).getD []++[x])):=by unfold Hid gH;rw[if_pos ce]
     go_wp2_with fail;go_roundw;case rel=>exact⟨j+1,_,by omega,by go_num,by rw[a3.out,aG.out];exact hl.out,by rw[a3.out];exact G4 aN.out,hO.out⟩
     case measure=>simp[intOf];omega
   ·have e2:¬(3:Int)≤(x.size:Int):=by omega
    have aG:Hid (gH rest x=rest):=by unfold Hid gH;rw[if_neg ce]
    go_wp2_with fail;go_roundw;case rel=>exact⟨j+1,l,by omega,by go_num,by rw[a3.out,aG.out];exact dm.out.tu ((Tu.refl (fun _=>False) wr).alloc _) id (fun k q=>q.elim),fun q dQ=>by rw[a3.out,aG.out]at dQ;have:=aN.out q dQ;omega,en.out.alloc _⟩
    case measure=>simp[intOf];omega
  ·obtain rfl:j=O.1.length:=by omega
   rw[cP]at g cf;have a2:Hid (kx O.1 (O.1.foldl gH [])):=G3 O.1;generalize O.1.foldl gH []=di at*;have eP:∀b,dF V xb b→¬b=w.heap.size+1+1:=fun b e G=>by have:=a4.out b e;omega
   have b9:=aa (dB.out.tu ab fun b e=>⟨aL.out b (by omega),fun G=>eP b (.inr G) e,fun k G=>eP b (.inl ⟨k,G⟩) e⟩);have ex:=aa (f5.out.tu ab (by omega));have ej:=aa (fD.out.tu ab (by omega));have er:=aa (eq.out.below (ab.jR eq.out.1 fun k e=>by omega));have eo:Hid (Tu (dF V xb) w wr):=f1.out.step ab fun k e=> .inr (by omega);have gP:=ab.size;have ea:ao aP wr:=ab.I ec.out fun b e=>by subst e;rw[dr.out _ (by omega)];exact aL.out _ (by omega)
   have dp:=aa (g.G0 cf (by omega));have ed:Hid (ao (aP.fr ad.heap.size wr) wr):=ea.fr;have fy:Hid (aP.le (aP.fr ad.heap.size wr)):=Hp.gQ ea;have d7:Hid (∀b,b<ad.heap.size→(aP.fr ad.heap.size wr) b=aP b):=fun b aQ=>by unfold Hp.fr;rw[if_pos aQ]
   generalize aP.fr ad.heap.size wr=h7 at*;obtain⟨ba,gm⟩:∃ba,ba=wr:=⟨_,rfl⟩
   rw[←gm]at b9 ex ej er eo gP dp ed⊢;clear gm g cf ab ea eP fh fF dB f5 fD eq ec f1;have iw:=b9.out.ci.c1;have jk:=b9.out.ci.lt;have fe:=aa (yL T N b9.out.I er.out hq.out (w.heap.size+1) w.heap.size O.2 (by omega) (by omega) (by omega) (aL.out _ (an _)) ex.out ej.out dA.out.short (by have:=dA.out.sum;have:=dZ.out.2;omega) (fun d eI=>b5 (dA.out.num d eI) (by omega)) hV);go_wp2_with fail;refine fe.out.mono ?_;rintro e aZ ⟨jl,rfl,e0⟩;have ff:Hid ((dk (aX T) (aj 0 nt) O.2).1.length≤200000):=by have:=rH (ck:=aX T) (aj 0 nt) ([],O.2);have:=dA.out.sum;simp only[cL]at*;unfold Hid dk;omega
   have hb:Hid (∀x∈(dk (aX T) (aj 0 nt) O.2).1,x.J<nt.length∧0<x.size∧1≤x.number∧x.number+x.size≤(nt.getD x.J default).size):=rN nt O.2;generalize dk (aX T) (aj 0 nt) O.2=D at*
   have cn:Tu (fun k=>k=w.heap.size) ba aZ:=e0.tu.mono fun k e=>by
    rcases e with e|e;·simp[bW]at e
    ·exact e
   have nx:∀b,dF V xb b→¬b=w.heap.size:=fun b e G=>by have:=a4.out b e;omega
   have fT:=aa (b9.out.tu cn fun b e=>⟨aL.out b (by omega),fun G=>nx b (.inr G) e,fun k G=>nx b (.inl ⟨k,G⟩) e⟩);have f2:Hid (Tu (dF V xb) w aZ):=eo.out.step cn fun k e=> .inr (by omega);have i4:=cn.size;have fV:h7 w.heap.size=none:=by rw[d7.out _ (by omega),dr.out _ (by omega)];exact aL.out _ (an _)
   have eb:ao h7 aZ:=cn.I ed.out fun b e=>by subst e;exact fV
   have fA:Hid (h7.le (h7.fr ba.heap.size aZ)):=Hp.gQ eb;have fu:Hid (ao (h7.fr ba.heap.size aZ) aZ):=eb.fr;have fY:Hid (e6 cX 4 (h7.fr ba.heap.size aZ) jl D.1):=(e0.own.uY (by have:=ff.out;omega)).mono (Hp.G1 (Hp.le_trans fx.out fy.out) _ _);have fi:Hid (hZ jZ cX 4 (h7.fr ba.heap.size aZ) aZ (w.heap.size+1+1) di l):=(dp.out.mono fA.out).U (cn.block _ dp.out.map.lt (by omega));have cA:Hid (∀b,b<w3.heap.size→(h7.fr ba.heap.size aZ) b=h b):=fun b aQ=>by unfold Hp.fr;rw[if_pos (by omega),d7.out _ (by omega),dr.out _ aQ]
   generalize h7.fr ba.heap.size aZ=a5 at*;obtain⟨-,iJ,iN,rfl,iU⟩:=fY.out;have iQ:=ff.out;clear e0 cn nx b9 eo er ej ex ed dp fy fA eb fe iw fV fx d7 gP;go_wp2_with fail;go_loopw[7,8,9,46,47,48,49,50,51,52,53,54,55,56,57,58,59,60,61,62,63,64,65,66,67,68,69,70,71,72,73,74,75,76,77,78,79,80,81,82,83,84,85,86,87,88,89,90,91,92,93,94,95,96,97,98,99,100,101,102,103,104,105,106,107,108,109,110,111,112,113,114,115,116,117,118,119,120,121,122] (fun _ _ _ i _ _ _ _ _ _ _ _ _ _ _ _ _ _ _ _ _ _ _ _ _ _ _ _ _ _ _ _ _ _ _ _ _ _ _ _ _ _ _ _ _ _ _ _ _ _ _ _ _ _ _ _ _ _ _ _ _ _ _ _ _ _ _ _ _ _ _ _ _ _ _ _ _ _ _ _ wr=>∃(j:Nat) (l2:List (Int×Value)) (ac:List (Int×List bq)) (M:bp),j≤D.1.length∧i=af ae j∧(D.1.take j).foldl e3 (di,s)=(ac,M)∧hZ jZ cX 4 a5 wr (w.heap.size+1+1) ac l2∧kx O.1 ac∧bH h wr B xb so sn budget V M∧cw M ot nt∧ao a5 wr∧Tu (dF V xb) w wr) (fun _ _ _ i _ _ _ _ _ _ _ _ _ _ _ _ _ _ _ _ _ _ _ _ _ _ _ _ _ _ _ _ _ _ _ _ _ _ _ _ _ _ _ _ _ _ _ _ _ _ _ _ _ _ _ _ _ _ _ _ _ _ _ _ _ _ _ _ _ _ _ _ _ _ _ _ _ _ _ _ _=>D.1.length-(intOf i).toNat);case atStart=>exact⟨0,l,di,s,aW _,rfl,rfl,fi.out,a2.out,fT.out,hJ.out,fu.out,f2.out⟩
   case round=>
    obtain⟨j,l2,ac,M,h5,rfl,cV,g,eC,q,sh,ak,ab⟩:=hrel;clear fi a2 fT fu f2;by_cases hj:j<D.1.length
    ·have a3:Hid ((D.1.take (j+1)).foldl e3 (di,s)=e3 (ac,M) D.1[j]):=by unfold Hid;rw[mc hj,dH,cV];rfl
     obtain⟨b,h9,rfl,e',bz,bL,bN,bO⟩:=fY.out.sub ak j hj;have dU:D.1[j]∈D.1:=aK hj;have dO:=hb.out _ dU;have cs:Hid (∀o∈O.1,o.a6=D.1[j].a6→o.size=D.1[j].size):=fun o ch e=>g'.out o ch _ dU e;generalize D.1[j]=x at*;have it:(0:Int)≤(j:Int):=by omega
     have iu:(j:Int)<(D.1.length:Int):=by omega
     have hk:=aa g;have a2:=aa eC;have hI:=aa q;have bG:=aa sh;have hn:=aa ak;have hP:=aa ab;have cv:Below wr.heap.size wr (wr.alloc (.cells #[af ae x.J,af ae x.number,af ae x.size,af ae x.a6] 121)):=(aD _ _).alloc (an _) _;have am:=aa (g.U (cv.block _ g.map.lt));have bE:=aa (q.below cv);have b0:=aa (ak.below cv);have bJ:=aa (ab.below cv);have aJ:=aa (Has.new wr #[af ae x.J,af ae x.number,af ae x.size,af ae x.a6] 121);have fR:Hid (w.heap.size+1+1<wr.heap.size):=g.map.lt;clear cV g eC q sh ak ab cv;go_wp2_with fail;clear bz bL bN bO e' hk hI hn hP;generalize wr.alloc (.cells #[af ae x.J,af ae x.number,af ae x.size,af ae x.a6] 121)=W at*;generalize wr.heap.size=A at*;have cF:=aJ.out.cl 0;have bR:=aJ.out.cl 1;have G:=aJ.out.cl 2;have cM:=aJ.out.cl 3;simp only[bw,bc,bQ]at cF bR G cM;have bX:=aJ.out.lt;by_cases ce:x.size<3
     ·have e2:decide ((x.size:Int)<3)=true:=by simp;omega
      have aG:Hid (e3 (ac,M) x=(ac,M)):=by unfold Hid e3;rw[if_pos (.inl ce)]
      go_quiet(fail);go_wp2_with fail;go_roundw;case rel=>exact⟨j+1,l2,ac,M,by omega,by go_num,by rw[a3.out,aG.out],am.out.U rfl,a2.out,bE.out.below ((aD _ _).drewN _),bG.out,b0.out.drewN _,bJ.out.drewN _⟩
      case measure=>simp[intOf];omega
     ·have e2:decide ((x.size:Int)<3)=false:=by simp;omega
      have cE:=am.out.row (x.a6:Int);have bd:=(aS.look mP (w:=W.drew) (am.out.map.U rfl) (x.a6:Int) 117 118 (ag none 0 0) oH (fun W=>by kernel_rfl)).1;have ei:=fun n=>(aS.look mP (w:=W.drewN n) (am.out.map.U rfl) (x.a6:Int) 117 118 (ag none 0 0) oH (fun W=>by kernel_rfl)).1;have cz:Hid (∀o∈(aT ac (x.a6:Int)).getD [],o∈O.1∧(o.a6:Int)=x.a6):=a2.out _;obtain⟨E,eD⟩:∃E,(aT ac (x.a6:Int)).getD []=E:=⟨_,rfl⟩
      rw[eD]at cE cz;obtain⟨gR,eM⟩:∃gR,(aT l2 (x.a6:Int)).getD (ag none 0 0)=gR:=⟨_,rfl⟩
      rw[eM]at bd ei cE;obtain⟨-,av,iO,rfl,iV⟩:=id cE;have fZ:=aa cE;clear cE;have aN:=aa eD;have d9:=aa eM;clear eD eM;by_cases dP:E.length=0
      ·have hW:E=[]:=kA dP;have aG:Hid (e3 (ac,M) x=(ac,M)):=by unfold Hid e3;rw[if_pos (.inr (.inl (by rw[aN.out,hW])))]
       rw[dP]at ei;clear fZ bd;go_quiet(fail);go_wp2_with fail;go_roundw;case rel=>exact⟨j+1,l2,ac,M,by omega,by go_num,by rw[a3.out,aG.out],am.out.U rfl,a2.out,bE.out.below ((aD _ _).drewN _),bG.out,b0.out.drewN _,bJ.out.drewN _⟩
       case measure=>simp[intOf];omega
      ·have iX:0<E.length:=by omega
       have i8:((E.length:Int)==0)=false:=by rw[beq_eq_false_iff_ne];omega
       have jb:decide ((E.length:Int)=0)=false:=decide_eq_false (by omega);have g7:=fd.out.lr;have a1:=aa fun w' (b':Below W.heap.size W w')=>G5 (bE.out.below b') bG.out x dO.1 dO.2.1 dO.2.2.2 g7;have f':=bE.out.ci.c1;have dg:=bE.out.ci.lt;unfold o1 at a1;obtain⟨bu,bS⟩:∃bu,fX M.nt x=bu:=⟨_,rfl⟩
       rw[bS]at a1;have cB:=aa bS;clear bS
       go_region_held3(fun w'=>w'.cell? ⟨A,0,none⟩=some (af ae x.J)∧w'.cell? ⟨A,1,none⟩=some (af ae x.number)∧w'.cell? ⟨A,2,none⟩=some (af ae x.size)∧w'.cell? ⟨A,3,none⟩=some (af ae x.a6)∧w'.cell? ⟨xb,1,none⟩=some (az (some ⟨sn,0,none⟩))) (first|(go_keep;done)|exact⟨dW,k1,k2,k3,k4⟩) (first
        |(go_at_call 66;refine(a1.out _ (by exact(aD _ _).drew)).mono ?_;rintro e e5 ⟨rfl,f7⟩;have Y:=aa (((aD W.heap.size W).drew).trans f7);have dW:=(Y.out.cell (p:=⟨A,0,none⟩) bX).trans cF;have k1:=(Y.out.cell (p:=⟨A,1,none⟩) bX).trans bR;have k2:=(Y.out.cell (p:=⟨A,2,none⟩) bX).trans G;have k3:=(Y.out.cell (p:=⟨A,3,none⟩) bX).trans cM;have k4:=(Y.out.cell (p:=⟨xb,1,none⟩) dg).trans f';clear f7))
       have dn:=aa (am.out.U (Y.out.block _ am.out.map.lt));have fU:=aa (bE.out.below Y.out);have ft:=aa (b0.out.below Y.out);have f3:=aa (bJ.out.below Y.out);have c9:=bK bX Y.out.size;clear am bE b0 bJ aJ cF bR G cM bX dg f' bd ei a1 Y k4;cases bu with
       |false=>
        have aG:Hid (e3 (ac,M) x=(ac,M)):=by unfold Hid e3;rw[if_pos (.inr (.inr cB.out))]
        go_wp2_with fail;go_roundw;case rel=>exact⟨j+1,l2,ac,M,by omega,by go_num,by rw[a3.out,aG.out],dn.out,a2.out,fU.out,bG.out,ft.out,f3.out⟩
        case measure=>simp[intOf];omega
       |true=>
        simp only[Bool.not_true];have bd:=(aS.look mP (w:=e5) dn.out.map (x.a6:Int) 117 118 (ag none 0 0) oH (fun W=>by kernel_rfl)).1;rw[d9.out]at bd;go_wp2_with fail;go_loopw[8,74,75,76,77,78,79,80,81,82,83,84,85,86,87,88,89] (fun lv _ _ _ _ _ _ _ _ _ _ _ _ _ _ _ _ iv=>∃(k:Nat) (eO:Value),k≤E.length∧eO=lv∧e6 cX 4 a5 eO (E.drop k)∧(∀i (aM:i<E.length),i<k→fX M.ot E[i]=false)∧Below e5.heap.size e5 iv) (fun lv _ _ _ _ _ _ _ _ _ _ _ _ _ _ _ _ _=>vv lv);case atStart=>exact⟨0,_,aW _,rfl,by simpa using fZ.out,fun i aM h=>(Nat.not_lt_zero _ h).elim,aD _ _⟩
        case round=>
         obtain⟨k,eO,h6,rfl,bB,dT,bl⟩:=hrel;clear bd;have ak:ao a5 wr:=ft.out.below bl;have eX:=(bl.cell (p:=⟨A,0,none⟩) c9).trans dW;have q1:=(bl.cell (p:=⟨A,1,none⟩) c9).trans k1;have eY:=(bl.cell (p:=⟨A,2,none⟩) c9).trans k2;have gI:=(bl.cell (p:=⟨A,3,none⟩) c9).trans k3;have cu:=bK c9 bl.size;have bZ:=aa (dn.out.U (bl.block _ dn.out.map.lt));have aO:=aa (fU.out.below bl);have dv:=aa ak;have cc:=aa (f3.out.below bl);by_cases eJ:k<E.length
         ·have ez:E.drop k=E[k]::E.drop (k+1):=List.drop_eq_getElem_cons eJ;have hy:E[k]∈E:=aK eJ;have co:=cz.out _ hy;have cq:=fb.out _ co.1;have bC:E[k].size=x.size:=cs.out _ co.1 (by have:=co.2;omega);obtain⟨-,cd,c3,rfl,eH⟩:=id bB;obtain⟨bT,eL⟩:∃bT,bT=(E.drop k).length:=⟨_,rfl⟩
          rw[←eL]at bB⊢;have c8:=bB;rw[ez]at c8;obtain⟨ge,h4,b3,ax,rfl,db,iR,cU,gk⟩:=e6.cut (encA:=cX) (c:=4) (fun z=>rfl) c8 ak (by decide);have bz:=cU 0 _ rfl;have bL:=cU 1 _ rfl;have bN:=cU 2 _ rfl;have bO:=cU 3 _ rfl;simp only[dz]at bz;have g6:=fc.out.lr;have a1:=aa fun w' (b':Below wr.heap.size wr w')=>G6 (aO.out.below b') bG.out E[k] cq.1 cq.2.1 cq.2.2.2 g6;unfold o1 at a1;obtain⟨bu,bS⟩:∃bu,fX M.ot E[k]=bu:=⟨_,rfl⟩
          rw[bS]at a1;have d8:Hid (∀i (aM:i<E.length),i<k→fX M.ot E[i]=false):=dT;have dq:=aa bS;have dh:=aa ez;obtain⟨y,eN⟩:∃y,y=E[k]:=⟨_,rfl⟩
          have ey:=aa eN;rw[←eN]at co cq bC a1 bz bL bN bO dq dh c8;have hC:=aa eL;have f9:=aO.out.ci.c0;have dg:=aO.out.ci.lt;have el:=aa c8;have dC:=aa gk;have d1:=aa bl;have gD:0<bT:=by omega
          have im:decide ((0:Int)<(bT:Int))=true:=decide_eq_true (by omega);have io:(0:Int)<(bT:Int):=by omega
          have ip:decide (0<bT)=true:=decide_eq_true gD;have iE:=aa co;have hQ:=aa cq;have hR:=aa bC;have d6:=aa ge;clear ez hy bS eN eL cU gk bB c8 dT bl ak co cq bC ge;go_wp2_with fail
          go_region_held3(fun w'=>w'.cell? ⟨b3,ax,none⟩=some (af ae y.J)∧w'.cell? ⟨b3,ax+1,none⟩=some (af ae y.number)∧w'.cell? ⟨b3,ax+2,none⟩=some (af ae y.size)∧w'.cell? ⟨b3,ax+3,none⟩=some (af ae y.a6)∧w'.cell? ⟨xb,0,none⟩=some (az (some ⟨so,0,none⟩))) (first|(go_keep;done)|with_reducible exact⟨gp,gq,gw,gx,gy⟩) (first
           |(go_at_call 66;refine(a1.out _ (by exact(aD _ _).drew)).mono ?_;rintro e iP ⟨rfl,f6⟩;have Y:=aa (((aD wr.heap.size wr).drew).trans f6);have gp:=(Y.out.cell (p:=⟨b3,ax,none⟩) db).trans bz;have gq:=(Y.out.cell (p:=⟨b3,ax+1,none⟩) db).trans bL;have gw:=(Y.out.cell (p:=⟨b3,ax+2,none⟩) db).trans bN;have gx:=(Y.out.cell (p:=⟨b3,ax+3,none⟩) db).trans bO;have gy:=(Y.out.cell (p:=⟨xb,0,none⟩) dg).trans f9;clear f6))
          have d3:=aa (bZ.out.U (Y.out.block _ bZ.out.map.lt));have fS:=aa (aO.out.below Y.out);have fn:=aa (dv.out.below Y.out);have f0:=aa (cc.out.below Y.out);have c6:=(Y.out.cell (p:=⟨A,0,none⟩) cu).trans eX;have gE:=(Y.out.cell (p:=⟨A,1,none⟩) cu).trans q1;have gF:=(Y.out.cell (p:=⟨A,2,none⟩) cu).trans eY;have ia:=(Y.out.cell (p:=⟨A,3,none⟩) cu).trans gI;have bY:=bK cu Y.out.size;have d0:=aa (d1.out.trans (Y.out.mono d1.out.size));obtain⟨a9,eK⟩:∃a9,a9=(E.drop (k+1)).length:=⟨_,rfl⟩
          rw[←eK]at dC d6 h4;have hm:=aa eK;clear eK hC gp gq gw gx gy eX q1 eY gI cu d1 cc dv aO bZ Y a1 f9 dg bz bL bN bO db im io ip gD eH;obtain rfl:bT=a9+1:=d6.out;clear d6;cases bu with
          |false=>
           simp only[Bool.not_false];have iq:(1:Int)≤(a9:Int)+1:=by omega
           have ir:(a9:Int)+1≤(c3:Int):=by omega
           have u8:(1:Int)≤(c3:Int):=by omega
           have fj:Hid (∀i (aM:i<E.length),i<k+1→fX M.ot E[i]=false):=fun i aM h=>by
            by_cases e:i=k;·subst e;rw[←ey.out];exact dq.out
            ·exact d8.out i aM (by omega)
           by_cases h3:c3=1
           ·subst h3;obtain rfl:a9=0:=by omega
            go_wp2_with fail;go_roundw;case rel=>exact⟨k+1,_,by omega,rfl,dC.out _ (.inl (kA (by have:=hm.out;omega))),fj.out,d0.out⟩
            case measure=>simp[vv]
           ·have iS:¬(c3:Int)=1:=by omega
            go_wp2_with fail;go_roundw;case rel=>exact⟨k+1,_,by omega,rfl,dC.out _ (.inr rfl),fj.out,d0.out⟩
            case measure=>simp[vv]
          |true=>
           simp only[Bool.not_true];obtain⟨dD,gi,gA,ga⟩:∃a8,(lA 117 (.map (some (w.heap.size+1+1))) (af ae (x.a6:Int)) (ag (some ⟨b3,ax,none⟩) (a9+1) c3)).run ai iP= .ok () a8∧aS jZ a8 (w.heap.size+1+1) (aY l2 (x.a6:Int) (ag (some ⟨b3,ax,none⟩) (a9+1) c3))∧iP.grownBy a8 (some (w.heap.size+1+1)):=⟨_,aS.put mP d3.out.map (x.a6:Int) _ 117 118 oH⟩
           have aB:Tu (fun b=>b=w.heap.size+1+1) iP dD:=(Tu.refl _ _).grown ga fun k e=> .inl (aU e).symm;have bV:∀b,dF V xb b→b≠w.heap.size+1+1:=fun b e G=>by have:=a4.out b e;omega
           have ek:=aa (fS.out.tu aB fun b e=>⟨aL.out b (by omega),fun G=>bV b (.inr G) e,fun k G=>bV b (.inl ⟨k,G⟩) e⟩);have dt:Hid (ao a5 dD):=aB.I fn.out fun b e=>by subst e;rw[cA.out _ (by omega)];exact aL.out _ (by omega)
           have em:Hid (Tu (dF V xb) w dD):=f0.out.step aB fun k e=> .inr (by omega);have dj:=aa (d3.out.put (x.a6:Int) (y::E.drop (k+1)) _ gA el.out);have cS:¬A=w.heap.size+1+1:=by have:=fR.out;omega
           have r0:=(dc (a:=⟨A,0,none⟩) (aB.block A bY cS)).trans c6;have eZ:=(dc (a:=⟨A,1,none⟩) (aB.block A bY cS)).trans gE;have gJ:=(dc (a:=⟨A,2,none⟩) (aB.block A bY cS)).trans gF;have gK:=(dc (a:=⟨A,3,none⟩) (aB.block A bY cS)).trans ia;have e9:=bK bY aB.size
           have d5:Hid (e3 (ac,M) x=(aY ac (x.a6:Int) (y::E.drop (k+1)),(aw x.size).foldl (fun s i=>du s x.J (x.number+i) y.J (y.number+i)) M)):=by
            unfold Hid e3
            rw[if_neg (by
             rintro(e|e|e);·exact ce e
             ·exact dP (by rw[aN.out.symm.trans e];rfl)
             ·exact KK (cB.out.symm.trans e))]
            have e:=zP (fun o=> !fX M.ot o) E k h6 (fun i aM=>congrArg Bool.not (d8.out i (by omega) aM)) (.inr ⟨eJ,by rw[←ey.out];exact congrArg Bool.not dq.out⟩);simp only;rw[aN.out,e,dh.out]
           have d4:Hid (kx O.1 (aY ac (x.a6:Int) (y::E.drop (k+1)))):=a2.out.set _ _ fun o ch=>cz.out o (by rw[←dh.out]at ch;exact List.mem_of_mem_drop ch);have ct:=hQ.out;have bC:=hR.out;have ci:=dO.1;have i6:(nt.getD x.J default).size≤1000000:=by rw[getD_at ci];exact fd.out.lr _ (aK ci)
           have i7:(ot.getD y.J default).size≤1000000:=by rw[getD_at ct.1];exact fc.out.lr _ (aK ct.1)
           obtain⟨bg,eE⟩:∃ht,ht=a9+1:=⟨_,rfl⟩
           rw[←eE]at gi⊢;have iq:decide ((bg:Int)=0)=false:=decide_eq_false (by omega);have ir:((bg:Int)==0)=false:=by rw[beq_eq_false_iff_ne];omega
           have u8:(bg==0)=false:=by rw[beq_eq_false_iff_ne];omega
           have is:¬bg=0:=by omega
           have il:¬(bg:Int)=0:=by omega
           have i9:(0:Int)<(bg:Int):=by omega
           have i':0<bg:=by omega
           have iy:=aa eE;clear eE;clear d3 fS fn f0 c6 gE gF gA ga aB bV cS d8 dq dh ey cz dC a2 aN d9 cB d0;go_wp2_with fail;go_loopw[9,99,100,101,102,103,104,105,106,107,108,109,110,111,112,113,114,115,116,117,118,119,120,121] (fun _ i _ _ _ _ _ _ _ _ _ _ _ _ _ _ _ _ _ _ _ _ _ _ gV=>∃(z:Nat),z≤x.size∧i=af ae z∧bH h gV B xb so sn budget V ((aw z).foldl (fun s i=>du s x.J (x.number+i) y.J (y.number+i)) M)∧Tu (dF V xb) dD gV) (fun _ i _ _ _ _ _ _ _ _ _ _ _ _ _ _ _ _ _ _ _ _ _ _ _=>x.size-(intOf i).toNat);case atStart=>exact⟨0,aW _,rfl,ek.out,Tu.refl _ _⟩
           case round=>
            obtain⟨z,iY,rfl,q,ab⟩:=hrel;have bv:Hid (cw ((aw z).foldl (fun s i=>du s x.J (x.number+i) y.J (y.number+i)) M) ot nt):=hX (P:=fun t=>cw t ot nt) _ _ bG.out fun t p _ h=>h.node _ _ _ _;by_cases hz:z<x.size
            ·have aG:Hid ((aw (z+1)).foldl (fun s i=>du s x.J (x.number+i) y.J (y.number+i)) M=du ((aw z).foldl (fun s i=>du s x.J (x.number+i) y.J (y.number+i)) M) x.J (x.number+z) y.J (y.number+z)):=by unfold Hid;rw[List.range_succ,dH];rfl
             generalize(aw z).foldl (fun s i=>du s x.J (x.number+i) y.J (y.number+i)) M=i1 at*;have ak:ao a5 wr:=ab.I dt.out fun b e=>by rw[cA.out b (by have:=a4.out b e;omega)];exact d2.out b e
             obtain⟨iL,iZ,cN,jf,dG,c1,c2,c3⟩:=e6.sub el.out ak 0 (by simp);simp only[aC,cx,and_true]at cN;obtain⟨hY,h0⟩:=cN;subst hY;subst h0;simp only[dJ,gn,dz]at dG c1 c2 c3;have cZ:¬dF V xb A:=fun e=>by have:=a4.out _ e;have:=fR.out;omega
             have a0:=(dc (a:=⟨A,0,none⟩) (ab.block A e9 cZ)).trans r0;have hT:=(dc (a:=⟨A,1,none⟩) (ab.block A e9 cZ)).trans eZ;have gW:=bK e9 ab.size;obtain⟨fG,eF⟩:∃N,N=x.number+z:=⟨_,rfl⟩
             obtain⟨fP,eG⟩:∃N,N=y.number+z:=⟨_,rfl⟩
             rw[←eF,←eG]at aG;have w1:ae.wrap ((x.number:Int)+(z:Int))=(fG:Int):=by rw[bA (by omega)];omega
             have w2:ae.wrap ((y.number:Int)+(z:Int))=(fP:Int):=by rw[bA (by omega)];omega
             have g9:=aa fun w' (b':Below wr.heap.size wr w')=>uB (q.below b') x.J fG y.J fP (by rw[bv.out.rl];exact ci) (by rw[bv.out.gZ _ ci];omega) (by rw[bv.out.nl];exact ci) (by rw[bv.out.gY _ ci];omega) (by rw[bv.out.ol];exact ct.1) (by rw[bv.out.mR _ ct.1];omega);have cc:=aa ab
             have ha:Hid (∀w',Tu (dF V xb) wr w'→w'.cell? ⟨A,0,none⟩=some (af ae x.J)∧w'.cell? ⟨A,1,none⟩=some (af ae x.number)∧w'.cell? ⟨b3,ax,none⟩=some (af ae y.J)∧w'.cell? ⟨b3,ax+1,none⟩=some (af ae y.number)):=fun w' t=>by
              have h8:ao a5 w':=t.I ak fun b e=>by rw[cA.out b (by have:=a4.out b e;omega)];exact d2.out b e
              obtain⟨iM,i0,cN,-,dG,c1,-,-⟩:=e6.sub el.out h8 0 (by simp);simp only[aC,cx,and_true]at cN;obtain⟨rfl,rfl⟩:=cN;simp only[dJ,gn,dz]at dG c1;exact⟨(dc (a:=⟨A,0,none⟩) (t.block A gW cZ)).trans a0,(dc (a:=⟨A,1,none⟩) (t.block A gW cZ)).trans hT,dG,c1⟩
             have is:(0:Int)≤(z:Int):=by omega
             have il:(z:Int)<(x.size:Int):=by omega
             have ja:(0:Int)<(bg:Int):=by omega
             have iz:=aa eF;have iB:=aa eG;have iH:=aa ct;have hS:=aa bC;clear q ab ak bv cZ r0 eZ gJ gK eF eG c2 c3 ct bC;go_wp2_with fail
             go_region_held3(fun w'=>w'.cell? ⟨A,0,none⟩=some (af ae x.J)∧w'.cell? ⟨A,1,none⟩=some (af ae x.number)∧w'.cell? ⟨b3,ax,none⟩=some (af ae y.J)∧w'.cell? ⟨b3,ax+1,none⟩=some (af ae y.number)) (first|(go_keep;done)|with_reducible exact⟨dW,k1,k2,k3⟩) (first
              |(go_at_call 56;refine(g9.out _ (by exact(aD _ _).drew)).mono ?_;rintro e jc ⟨rfl,gG,gQ⟩;have hH:=aa gG;have e1:=(Tu.refl (dF V xb) wr).drew.trans (gQ.mono fun b e=> .inl (by rcases e with e|e|e<;>exact⟨_,e⟩));obtain⟨dW,k1,k2,k3⟩:=ha.out _ e1;have hK:=aa (cc.out.trans e1);clear gG gQ e1))
             all_goals
              go_wp2_with fail;go_roundw;case rel=>exact⟨z+1,by omega,by go_num,by rw[aG.out];exact hH.out,hK.out⟩
              case measure=>simp[intOf];omega
            ·obtain rfl:z=x.size:=by omega
             have gX:=aa q;have g0:=aa ab;have g2:Hid (ao a5 wr):=ab.I dt.out fun b e=>by rw[cA.out b (by have:=a4.out b e;omega)];exact d2.out b e
             have g3:=aa (dj.out.U (ab.block _ dj.out.map.lt fun e=>by have:=a4.out _ e;omega));have hS:=aa bC;clear q ab r0 eZ gJ gK bC;go_wp2_with fail;go_roundw;case rel=>exact⟨j+1,_,_,_,by omega,by go_num,by rw[a3.out,d5.out],g3.out,d4.out,gX.out,bv.out,g2.out,em.out.trans g0.out⟩
             case measure=>simp[intOf];omega
         ·obtain rfl:k=E.length:=by omega
          rw[mu]at bB;obtain⟨-,cd,c3,rfl,eH⟩:=id bB;simp only[cL]at bB eH⊢
          have d5:Hid (e3 (ac,M) x=(aY ac (x.a6:Int) [],M)):=by
           unfold Hid e3
           rw[if_neg (by
            rintro(e|e|e);·exact ce e
            ·exact dP (by rw[aN.out.symm.trans e];rfl)
            ·exact KK (cB.out.symm.trans e))]
           have e:=zP (fun o=> !fX M.ot o) E E.length (an _) (fun i aM=>congrArg Bool.not (dT i aM aM)) (.inl rfl);simp only;rw[aN.out,e,mu]
          have d4:Hid (kx O.1 (aY ac (x.a6:Int) [])):=a2.out.set _ _ fun o ch=>by cases ch
          have PM:=aa fun n=>aS.put mP (w:=wr.drewN n) (bZ.out.map.U rfl) (x.a6:Int) (ag cd 0 c3) 117 118 oH;have iC:=fun n=>(PM.out n).1;have aB:∀n,Tu (fun b=>b=w.heap.size+1+1) wr (de (wr.drewN n) (w.heap.size+1+1) (cG jZ (aY l2 (x.a6:Int) (ag cd 0 c3)))):=fun n=>((Tu.refl _ _).drewN n).grown (PM.out n).2.2 fun k e=> .inl (aU e).symm;have bV:∀b,dF V xb b→b≠w.heap.size+1+1:=fun b e G=>by have:=a4.out b e;omega
          have ek:=aa fun n=>aO.out.tu (aB n) fun b e=>⟨aL.out b (by omega),fun G=>bV b (.inr G) e,fun k G=>bV b (.inl ⟨k,G⟩) e⟩
          have dt:Hid (∀n,ao a5 (de (wr.drewN n) (w.heap.size+1+1) (cG jZ (aY l2 (x.a6:Int) (ag cd 0 c3))))):=fun n=>(aB n).I dv.out fun b e=>by subst e;rw[cA.out _ (by omega)];exact aL.out _ (by omega)
          have em:Hid (∀n,Tu (dF V xb) w (de (wr.drewN n) (w.heap.size+1+1) (cG jZ (aY l2 (x.a6:Int) (ag cd 0 c3))))):=fun n=>cc.out.step (aB n) fun k e=> .inr (by omega);have dj:=aa fun n=>bZ.out.put (x.a6:Int) [] _ (PM.out n).2.1 (e6.nil a5 cd c3);clear bB aB bV dT bl ak bZ aO dv cc PM eX q1 eY cz aN d9 cB;go_wp2_with fail;go_quiet(fail);go_wp2_with fail;go_roundw;case rel=>exact⟨j+1,_,_,_,by omega,by go_num,by rw[a3.out,d5.out],dj.out _,d4.out,ek.out _,bG.out,dt.out _,em.out _⟩
          case measure=>simp[intOf];omega
    ·obtain rfl:j=D.1.length:=by omega
     rw[cP]at cV;have hc:=aa (q);have he:=aa ab;have hg:Hid (lc (aX T) (aj 0 ot) (aj 0 nt) s=M):=by unfold Hid;rw[hw.out,cV]
     clear cV g eC q sh ak ab;go_wp2_with fail;refine bodyPost_end (results_none rfl _ _ _) rfl ?_;exact⟨rfl,by rw[hg.out];exact hc.out,he.out⟩
end
end Go.Proofs.YtdplggpbgommnaaGreatDoor
