/- pairing.Pair. -/
import Derived.Test.YtdplggpbgommnaaGreatDoorSpl
import Derived.Test.YtdplggpbgommnaaGreatDoorG28
open Go renaming bodyPost_ret->aF
open Go.Act renaming put->br
open Go.Addr.mk renaming injEq->cx
open Go.IntKind renaming i64->ae
open Go.Lib renaming PrintTabs->fq,hid->aa
open Go.Proofs.Tryz renaming prog->ai
open Go.RowKit.Below renaming refl->aD
open Go.Value renaming agg->aq,int->af,ownBlock->bW,pointer->az,slice->ag,string->ah
open Go.Value.slice renaming injEq->bU
open List renaming foldl_cons->dK,getElem_cons_succ->dV,getElem_cons_zero->dJ,getElem_mem->aK,getElem_toArray->eV,mem_singleton->eR,range->aw,replicate->aA,setIfInBounds_toArray->bh,set_cons_succ->bf,set_cons_zero->nu
open Nat renaming le_of_ble_eq_true->qI,le_refl->kI
open Option.some renaming injEq->aC
set_option maxRecDepth 100000
set_option maxHeartbeats 8000000
namespace Go.Proofs.YtdplggpbgommnaaGreatDoor
open Go.RowKit
theorem Ow.Ad{K:Type}{enc:K->Value}{w:World}{h:Hp}{B:Nat}{e:TypeId}{k n r:Nat}{v:Value}{xs:List Value}{l:List (K×Value)}(o:Ow w h B e k v n xs)(m:aS enc w r l):v.ownBlock≠some r:=fun q=>by
 rcases o.row.2 with⟨rfl,rfl⟩|⟨g',J,O,rfl,Y,G,_⟩;·simp[bW]at q
 ·simp only[bW,aC]at q;subst q;unfold aS at m;rw[G]at m;simp[cG]at m
theorem Hy{h hs:Hp}{w0 w:World}{B xb so sn:Nat}{budget:Int}{V:eL->Value}{s:bp}{O:Value}(q:bH h w B xb so sn budget V s)(b:Below w0.heap.size w0 w)(_hb:w0.heap.size<=B)(ak:hs.le h)(am:∀b,b<w0.heap.size->h b=hs b)(o:hV h O ((aw s.rs.length).map fun i=>V (.rs i)))(aj:∀i,(s.rs.getD i []).length<=140737488355328)(bx:Nat)(G:w0.heap.size<=bx)(Y:bx<B)(hn:h bx=none)(x y z:Value):z7 s hs w0 (.returned (aq #[O,af ae s.cost,af ae s.a7])) (((w.setCell ⟨bx,0,none⟩ x).setCell ⟨bx,1,none⟩ y).setCell ⟨bx,2,none⟩ z):=by
 have l2:=Hp.gQ (B:=B) q.I;have J:(h.fr B w) bx=none:=by unfold Hp.fr;rw[if_pos Y];exact hn
 have s0:St w0.heap.size hs w0 (h.fr B w) w:=⟨b,q.I.fr,Hp.le_trans ak l2,fun k ab=>by unfold Hp.fr;rw[if_pos (by omega)];exact am k ab,kI _⟩
 exact⟨O,h.fr B w,rfl,((s0.setCell (p:=⟨bx,0,none⟩) G J x).setCell (p:=⟨bx,1,none⟩) G J y).setCell (p:=⟨bx,2,none⟩) G J z,fun i=>V (.rs i),o.mono l2,fun i _=>(q.rows.own (.rs i)).sl (aj i)⟩
theorem Hz{ck:Int->ByteArray->List Nat->ByteArray}{O nd:List cF}(s:bp)(i:Nat):((lc ck O nd s).rs.getD i []).length=(s.rs.getD i []).length:=by
 unfold lc;simp only
 have key:∀(l:List bq) (p:List (Int×List bq)×bp),((l.foldl e3 p).2.rs.getD i []).length=(p.2.rs.getD i []).length:=by
  intro l;induction l with
  |nil=>intro p;rfl
  |cons x l G=>
   intro p;rw[dK,G];unfold e3;split;·rfl
   ·split;·rfl
    ·simp only;generalize hn:x.size=n;clear hn;induction n with
     |zero=>rfl
     |succ n J=>rw[List.range_succ,List.foldl_append,dK,List.foldl_nil];simp only[du,lW];exact J
 exact key _ _
theorem u2(T:fq)(N:Nat)(h:Hp)(w:World)(J:ao h w)(tb:Tb T N w)(bg bd:Value)(ot nt:List Tree)(hv:hQ h bg ot)(di:hQ h bd nt)(budget:Int)(dg:aG budget)(dO:jc ot=true)(dN:jc nt=true)(dY:∀t∈ot,t.texts)(dZ:∀t∈nt,t.texts)(b1:e7 ot)(b2:e7 nt)(dr:pa ot)(dt:pa nt):Calls ai 11 #[bg,bd,af ae budget] w (z7 (eD (aX T) budget ot nt) h w):=by
 have cd:=aa J;have a3:=aa tb;have ce:=aa hv;have cf:=aa di;have cc:=aa dg;have PO:=aa dO;have eG:=aa dN;have eI:=aa dY;have eJ:=aa dZ;have aj:=aa b1;have Y:=aa b2;have em:=aa dr;have en:=aa dt;have cS:=aa (Has.new w #[ag none 0 0,af ae 0,af ae 0] 31);have BR:Hid (Below w.heap.size w (w.alloc (.cells #[ag none 0 0,af ae 0,af ae 0] 31))):=(aD _ _).alloc (kI _) _;clear J tb hv di dg dO dN dY dZ b1 b2 dr dt;go_in;go_wp2_with fail;generalize w.alloc (.cells #[ag none 0 0,af ae 0,af ae 0] 31)=w0 at*;have aV:=aa (cd.out.below BR.out);refine(Ac h _ (by exact aV.out) bg ot ce.out eI.out).mono ?_;rintro e w1 ⟨rfl,c1⟩;rw[PO.out];go_wp2_with fail;refine(Ac h _ (by exact aV.out.below c1) bd nt cf.out eJ.out).mono ?_;rintro e w2 ⟨rfl,c2⟩;rw[eG.out];have ek:=aa ((aV.out.below c1).below c2);have cQ:=aa ((cS.out.below c1).below c2);have ab:=aa (BR.out.trans ((c1.trans (c2.mono c1.size)).mono BR.out.size));clear c1 c2 aV cS BR;go_wp2_with fail;refine(Ae h _ (by exact ek.out) bg ot ce.out aj.out.len aj.out.lr aj.out.dS).mono ?_;rintro e w3 ⟨so,eX,ms,fe,mv,av,kv,rfl,fy,dW,bz,du,dD,aO,aP,aQ,aB,aJ,aL,aM⟩;have am:=aa dW;have bz:=aa bz;have ep:=aa du;have eC:=aa dD;have cj:=aa aO;have cl:=aa aP;have cn:=aa aQ;have d5:=aa aB;have d7:=aa aJ;have d9:=aa aL;have eb:=aa aM;clear dW du dD aO aP aQ aB aJ aL aM;go_wp2_with fail;refine(Ae eX _ (by exact am.out.I) bd nt (by exact cf.out.mono am.out.le) Y.out.len Y.out.lr Y.out.dS).mono ?_;rintro e G ⟨sn,ax,ns,ff,eo,eN,dR,rfl,fx,dX,aY,dv,dE,aO,aP,aQ,aB,aJ,aL,aM⟩;have O:=aa dX;have aY:=aa aY;have er:=aa dv;have co:=aa dE;have ct:=aa aO;have cv:=aa aP;have bA:=aa aQ;have d6:=aa aB;have d8:=aa aJ;have ea:=aa aL;have ec:=aa aM;clear dX dv dE aO aP aQ aB aJ aL aM;obtain⟨eM,ck,rfl,fw,dh⟩:=co.out.at O.out.I;have eE:=aa dh;obtain⟨fF,fE,fh,a5,-,-,-⟩:=aY.out.box;have fd:=aa a5;have e5:(G.alloc (.cells #[az (some ⟨so,0,none⟩),az (some ⟨sn,0,none⟩),af ae budget,ag none 0 0,af ae 0,af ae 0] 57)).cell? ⟨sn,5,none⟩=some (ag eM nt.length ck):=cu (O.out.I.alloc _) a5 5;have fS:=cD (O.out.I _ _ a5);have fT:sn<G.heap.size+1:=by omega
 have b9:Hid (iD ax (G.alloc (.cells #[az (some ⟨so,0,none⟩),az (some ⟨sn,0,none⟩),af ae budget,ag none 0 0,af ae 0,af ae 0] 57)) G.heap.size so sn budget (fun _=>mY) nt 0):=
  ⟨O.out.I.alloc _,jV.start _ _ _ _ _,Has.new G #[az (some ⟨so,0,none⟩),az (some ⟨sn,0,none⟩),af ae budget,ag none 0 0,af ae 0,af ae 0] 57,bI O.out.I _ (kI _),⟨rfl,rfl⟩,fun i J=>(Nat.not_lt_zero _ J).elim,fun i _=>rfl⟩
 have B0:Hid (Below G.heap.size G (G.alloc (.cells #[az (some ⟨so,0,none⟩),az (some ⟨sn,0,none⟩),af ae budget,ag none 0 0,af ae 0,af ae 0] 57))):=(aD _ _).alloc (kI _) _;clear a5 dh;go_wp2_with fail;go_loopw[34] (fun i wr=>∃(j:Nat) (F:Nat->bY),j<=nt.length/\i=af ae j/\iD ax wr G.heap.size so sn budget F nt j/\Below G.heap.size G wr) (fun i _=>nt.length-(intOf i).toNat);case atStart=>exact⟨0,fun _=>mY,Nat.zero_le _,rfl,b9.out,B0.out⟩
 case round=>
  obtain⟨j,F,fv,rfl,g,bl⟩:=hrel;clear b9 B0 e5;by_cases hj:j<nt.length
  ·obtain⟨b,off,rfl,bS,dk,e1⟩:=eE.out j hj;have fR:=Nat.lt_of_lt_of_le bS bl.size;have k1:=(bl.cell (p:=⟨b,off+j,none⟩) bS).trans dk;have bN:=bA.out j;have cZ:(nt.map fun t=>aA t.size false).getD j []=aA (nt.getD j default).size false:=by rw[getD_at (by simpa using hj),getD_at hj,List.getElem_map]
   rw[cZ,List.length_replicate]at bN;obtain⟨fg,c5,cY⟩:=bN.shape;rw[cY]at k1;have hz:(nt.getD j default).size<=1000000:=by rw[getD_at hj];exact Y.out.lr _ (aK hj)
   have fu:j<=1000000:=by have:=Y.out.len;omega
   obtain⟨z,bH⟩:∃z,z=(nt.getD j default).size:=⟨_,rfl⟩
   rw[<-bH]at k1 hz;have ej:=aa bH.symm;have bv:=aa g;have ch:=aa g.I;have ed:=aa bl;have eA:Hid (Ow wr ax (G.heap.size+1) 40 1 (F 0).v j (F 0).xs):=by have:=g.rows.own 0;rw[g.n0.1]at this;exact this
   have c3:wr.cell? ⟨G.heap.size,3,none⟩=some (F 0).v:=g.box.cl 3;have fc:=g.box.lt;have fG:(0:Int)<=(j:Int):=by omega
   have fN:(j:Int)<(nt.length:Int):=by omega
   clear g bl dk bN cZ cY e1 bH bS;go_wp2_with fail;refine wp_region_noPanic ?_;refine nE (n:=16) (S:=fun w'=>w'.cell? ⟨G.heap.size,3,none⟩=some (F 0).v) (by kernel_rfl) ?_ (fun e0=> ?_);·go_keep
   simp only[Array.replicate,aA,List.size_toArray,List.length_cons,List.length_nil,Nat.zero_add,Nat.reduceAdd]
   iterate 7
    refine iL (v:= ?_) 0 rfl (by kernel_rfl) (fun _ _ _ h=>h) (by rfl) (by assumption) ?_ ?_
    rotate_left
    ·intro w bG;(try dsimp only at bG);simp only[nx];go_simp<;>with_reducible rfl
    simp only[nx,br,eV,dV,dJ,bh,nu,bf]
   iterate 2
    refine iL (v:= ?_) 8 rfl (by kernel_rfl) (fun _ _ _ h=>h) (by rfl) (by assumption) ?_ ?_
    rotate_left
    ·intro w bG;(try dsimp only at bG);simp only[nx];go_simp<;>with_reducible rfl
    simp only[nx,br,eV,dV,dJ,bh,nu,bf]
   refine cE (rs:=[7]) (by kernel_rfl) (by simp) ?_;refine aZ.cons (o:=_) rfl (fun K hK=> ?_) aZ.nil;go_simp;refine hK.out _ _ (fun _=> ?_) ?_;·go_keep
   clear hK K;try simp only[bh,nu,bf]
   refine cE (rs:=[10]) (by kernel_rfl) (by simp) ?_;refine aZ.cons (o:=_) rfl (fun K hK=> ?_) aZ.nil;go_simp;go_at_call 24;refine(Fz ax _ (by exact ch.out.drew.alloc _) wr.heap.size nc rfl (cm _ rfl) (fun j v e=>by show(wr.alloc (.cells nc.toArray 43)).cell? ⟨wr.heap.size,j,none⟩=some v;rw[World.cell?_alloc_at _ _ _ _ rfl];simpa using e) (by simp) z (by omega)).mono ?_;rintro e aS ⟨rfl,cU,dB⟩;have aT:Below wr.heap.size wr aS:=(((aD wr.heap.size wr).drew).alloc (kI _) (.cells #[af ae (-1),af ae 0] 43)).trans (cU.mono (by simp));have eP:=(aT.cell (p:=⟨G.heap.size,3,none⟩) fc).trans c3;have dC:Ow aS ax (G.heap.size+1) 43 2 (ag (some ⟨wr.heap.size+1,0,none⟩) z z) z (aA z nc).flatten:=by have:=dB.base (B':=G.heap.size+1) (by simp;omega);simpa using this
   have eB:=aa dC;clear dC;have bp:=aa aT;have e2:=aT.size;clear cU dB aT;refine hK.out _ _ (fun _=> ?_) ?_;·exact eP
   clear hK K;try simp only[bh,nu,bf]
   refine cE (rs:=[11]) (by kernel_rfl) (by simp) ?_;refine aZ.cons (o:=_) rfl (fun K hK=> ?_) aZ.nil;go_simp;refine hK.out _ _ (fun _=> ?_) ?_;·go_keep
   clear hK K;try simp only[bh,nu,bf]
   refine cE (rs:=[12]) (by kernel_rfl) (by simp) ?_;refine aZ.cons (o:=_) rfl (fun K hK=> ?_) aZ.nil;refine gS EX (by rfl) _ _ (by rfl) (B:=G.heap.size+1) (St.dN ((ch.out.below bp.out).alloc _) (by simp;omega)) _ j (F 0).xs (by rfl) ((eA.out.same bp.out).alloc _) ⟨aS.heap.size,0,none⟩ 1 1 [ag (some ⟨wr.heap.size+1,0,none⟩) z z] (by rfl) (by rfl) (cK _ _ _ _ (by simp)) (cm _ rfl) (by omega) (by omega) ?_;intro a4 cg bO e6 dG bE cV;have bq:Below wr.heap.size wr (aS.alloc (.cells #[ag (some ⟨wr.heap.size+1,0,none⟩) z z] 40)):=bp.out.alloc e2 _;have q:=bv.out.step (rb:=bY.mk (ag (some ⟨wr.heap.size+1,0,none⟩) z z) z (aA z nc).flatten) (r0:=bY.mk (ag (some ⟨a4,0,none⟩) (j+1) cg) (j+1) ((F 0).xs++([ag (some ⟨wr.heap.size+1,0,none⟩) z z]:List Value))) bq (eB.out.alloc _) ⟨wr.heap.size+1,rfl,by omega⟩ (by rw[ej.out];exact⟨rfl,rfl⟩) ((Tu.refl _ _).grown bE fun k e=> .inl e) dG (by rcases cV with e|e;exact .inl e;exact .inr ⟨_,e,kI _⟩) ⟨rfl,rfl⟩;have PX:Hid (iD ax (bO.setCell ⟨G.heap.size,3,none⟩ (ag (some ⟨a4,0,none⟩) (j+1) cg)) G.heap.size so sn budget (ba (ba F (1+j) (bY.mk (ag (some ⟨wr.heap.size+1,0,none⟩) z z) z (aA z nc).flatten)) 0 (bY.mk (ag (some ⟨a4,0,none⟩) (j+1) cg) (j+1) ((F 0).xs++([ag (some ⟨wr.heap.size+1,0,none⟩) z z]:List Value)))) nt (j+1)/\Below G.heap.size wr (bO.setCell ⟨G.heap.size,3,none⟩ (ag (some ⟨a4,0,none⟩) (j+1) cg))):=q;have a8:=(bv.out.box.below bq).tu ((Tu.refl (fun b=>(F 0).v.ownBlock=some b) _).grown bE fun k e=> .inl e) fun e=>by have:=bv.out.hJ 0 e;omega
   have cX:bO.cell? ⟨G.heap.size,3,none⟩=some (F 0).v:=a8.cl 3;have eW:=a8.fz 3;have fb:=a8.lt;clear e6 dG bE cV bq q a8;refine hK.out _ _ (fun _=> ?_) ?_;·exact cX
   clear hK K;try simp only[br,bh,nu,bf]
   refine cE (rs:=[13]) (by kernel_rfl) (by simp) ?_;refine aZ.cons (o:=_) rfl (fun K hK=> ?_) aZ.nil;go_simp;refine hK.out _ _ (fun _=> ?_) ?_;·go_keep
   clear hK K;try simp only[bh,nu,bf]
   refine cE (rs:=[14]) (by kernel_rfl) (by simp) ?_;refine aZ.cons (o:=_) rfl (fun K hK=> ?_) aZ.nil;go_simp;refine hK.out _ _ (fun _=> ?_) ?_;·go_keep
   clear hK K;try simp only[bh,nu,bf]
   refine cE (rs:=[15]) (by kernel_rfl) (by simp) ?_;refine aZ.cons (o:=_) rfl (fun K hK=> ?_) aZ.nil;go_simp;refine hK.out _ _ (fun _=> ?_) ?_;·go_keep
   clear hK K;try simp only[bh,nu,bf]
   refine cE (rs:=[16]) (by kernel_rfl) (by simp) ?_;refine aZ.cons (o:=_) rfl (fun K hK=> ?_) aZ.nil;go_simp;refine hK.out _ _ (fun h=>absurd h (by decide)) ?_;clear hK K;try simp only[bh,nu,bf]
   refine lK (by kernel_rfl) ?_ _;simp only[NoPanic];have eL:=aa PX.out.1;have ei:=aa (ed.out.trans PX.out.2);clear PX cX eW fb e0;go_wp2_with fail;go_roundw;case rel=>exact⟨j+1,_,by omega,by go_num,eL.out,ei.out⟩
   case measure=>simp[intOf];omega
  ·obtain rfl:j=nt.length:=by omega
   have eO:=aa bl;have dw:w2.heap.size<=w3.heap.size:=am.out.below.size;have dA:w3.heap.size<=G.heap.size:=O.out.below.size
   obtain⟨eY,V,dn,dF,k5,dm,a9⟩:=Hj (_w2:=G) (B:=w2.heap.size) (bz.out.mono O.out.le) aY.out g (eC.out.mono O.out.le) co.out w3.heap.size dw dA
    ((cj.out.call O.out).same bl) ((cl.out.call O.out).same bl) (fun i=>((cn.out i).call O.out).same bl) d5.out d7.out d9.out eb.out
    (fun g e=>(cj.out.lt g e).2) (fun g e=>(cl.out.lt g e).2) (fun i g e=>((cn.out i).lt g e).2)
    (ct.out.same bl) (cv.out.same bl) (fun i=>(bA.out i).same bl) d6.out d8.out ea.out ec.out
    (fun g e=>(ct.out.lt g e).2) (fun g e=>(cv.out.lt g e).2) (fun i g e=>((bA.out i).lt g e).2) (by have:=Y.out.len;omega)
   have cN:Tu (fun _=>False) w3 wr:=((Tu.refl (fun _=>False) w3).below O.out.below).below bl;have ci:Hid (iz wr ms ot):=ep.out.tu cN fun _ _ e=>e;have MN:Hid (iz wr ns nt):=er.out.tu ((Tu.refl (fun _=>False) G).below bl) fun _ _ e=>e;have ey:Hid (∀i,i<ot.length->¬e4 V (ms.getD i 0)):=fun i J ⟨k,e⟩=>(a9.rows.own k).Ad (ci.out i J) e;have ez:Hid (∀i,i<nt.length->¬e4 V (ns.getD i 0)):=fun i J ⟨k,e⟩=>(a9.rows.own k).Ad (MN.out i J) e;have c9:w2.heap.size<=wr.heap.size:=by have:=bl.size;omega
   have bm:w2.heap.size<=G.heap.size:=by omega
   have cw:=aa a9;have a1:=aa k5;have a2:=aa dm;have cq:Hid (∀b,b<=G.heap.size->eY b=ax b):=dF;have el:=aa dn;have cF:=aa (Hk ot nt);clear a9 k5 dm dF dn cN g bl;go_wp2_with fail;refine(HA cw.out a1.out a2.out ci.out MN.out ey.out ez.out cF.out aj.out Y.out c9).mono ?_;rintro e e8 ⟨rfl,dP,d1⟩;have cz:=aa dP;have bT:=aa (e4.turned cw.out c9 (d1.mono fun b e=> .inl e) bm);have cG:=aa (Hl cF.out);clear dP d1;have c6:w2.heap.size<=e8.heap.size:=by have:=bT.out.size;omega
   go_wp2_with fail;refine(HB cz.out cc.out a1.out a2.out cG.out aj.out Y.out c6 (fun i j J hj=>Gr _ _ _ (aj.out.size _ (by rw[getD_at J];exact aK J)) (Y.out.size _ (by rw[getD_at hj];exact aK hj)))).mono ?_;rintro e e9 ⟨rfl,dQ,d2⟩;have cA:=aa dQ;have bV:=aa (bT.out.trans (e4.turned cz.out c6 (d2.mono fun b e=> .inl e) bm));have cM:=aa (HC (budget:=budget) cG.out);clear dQ d2;have eZ:w2.heap.size<=e9.heap.size:=by have:=bV.out.size;omega
   go_wp2_with fail;refine(HD cA.out cc.out a1.out a2.out cM.out aj.out Y.out (fun d _ e _=>Gn _ _ _)).mono ?_;rintro e bR ⟨rfl,dT,d3⟩;have cB:=aa dT;have bX:=aa (bV.out.trans (e4.turned cA.out eZ d3 bm));have bB:=aa (Hm (budget:=budget) cM.out);clear dT d3;have c8:w2.heap.size<=bR.heap.size:=by have:=bX.out.size;omega
   have bZ:Hid (Below w2.heap.size w2 bR):=(am.out.below.trans ((O.out.below.trans (eO.out.mono dA)).mono dw)).trans bX.out;have eK:Hid (Tb T N bR):=(a3.out.below (ab.out.mono a3.out.1)).below (bZ.out.mono (by have:=a3.out.1;have:=ab.out.size;omega));go_wp2_with fail;refine(HE T N cB.out eK.out (by have:=a3.out.1;have:=ab.out.size;omega) c8 a1.out a2.out bB.out aj.out Y.out em.out en.out).mono ?_;rintro e aS ⟨rfl,dU,d4⟩;have cC:=aa dU;have b0:=aa (bZ.out.trans (e4.turned cB.out c8 d4 bm));clear dU d4;have ak:=cQ.out.below (b0.out.mono (kI _));obtain⟨e3,aN,bL⟩:=cC.out.box;have eF:=aa bL;have fO:=aN.cl 3;have fP:=aN.cl 4;have fQ:=aN.cl 5;have fA:=aN.lt;have r0:=ak.cl 0;have r1:=ak.cl 1;have r2:=ak.cl 2;have fi:=ak.fz 0;have fj:=ak.fz 1;have fr:=ak.fz 2;have fB:=ak.lt;have dp:=cQ.out.lt;have fC:w.heap.size≠G.heap.size:=by omega
   have fD:G.heap.size≠w.heap.size:=by omega
   have eH:Hid (∃av bC bJ,e3=ag av bJ bC):=by obtain⟨a,c,e,-⟩:=Sl.shape bL;exact⟨a,c,_,e⟩
   obtain⟨av,bC,bJ,rfl⟩:=eH.out;clear ak aN bL;go_wp2_with fail;refine aF (v:=aq #[ag av bJ bC,af ae (eD (aX T) budget ot nt).cost,af ae (eD (aX T) budget ot nt).a7]) (by simp[results,Tryz.results11,go_sem,r0,r1,r2,eD]) rfl ?_
   exact Hy (s:=eD (aX T) budget ot nt) cC.out (ab.out.trans (b0.out.mono ab.out.size)) ab.out.size (Hp.le_trans am.out.le (Hp.le_trans O.out.le el.out)) (fun b ft=>by rw[cq.out b (by have:=ab.out.size;omega),O.out.aI b (by have:=ab.out.size;omega),am.out.aI b (by have:=ab.out.size;omega)]) eF.out
    (fun i=>by
     unfold eD;rw[Hz];rcases Nat.lt_or_ge i nt.length with J|J;·rw[bB.out.gZ i J,getD_at J];have:=Y.out.lr _ (aK J);omega
     ·rw[List.getD_eq_getElem?_getD,List.getElem?_eq_none (by rw[bB.out.rl];exact J)];simp) w.heap.size (kI _) dp (by rw[cq.out _ (by omega),O.out.aI _ (by omega),am.out.aI _ dp];exact bI cd.out _ (kI _)) _ _ _
structure si(ts:List Tree):Prop where
 prog:jc ts=true
 texts:∀t∈ts,t.texts
 jw:e7 ts
 oe:pa ts
theorem vd(m f:ByteArray)(hm:m.size=1)(hf:f.size=1)(hp:jc [b0 m f]=true)(hn:(bX (b0 m f).kids).length<=500000):si [b0 m f]:=by
 refine⟨hp,fun t G=> ?_,⟨qI rfl,fun t G=> ?_,qI rfl,fun d hd=> ?_,fun d hd=> ?_,fun d hd=> ?_,fun t G=> ?_⟩,⟨fun d hd=> ?_,?_,fun d hd=> ?_⟩⟩;·rw[eR.1 G];simp[b0,Tree.texts,lq,hm,hf];decide
 ·rw[eR.1 G];exact hn
 iterate 3
  ·rw[nh]at hd;rw[eR.1 hd];exact qI rfl
 ·rw[eR.1 G];exact qI rfl
 ·rw[nh]at hd;rw[eR.1 hd];simp[dG,Tree.short,kJ,hf];decide
 ·rw[nh];exact qI rfl
 ·rw[nh]at hd;rw[eR.1 hd];exact qI rfl
theorem ni:si [b0 ⟨#[77]⟩ ⟨#[102]⟩]:=vd _ _ rfl rfl (by decide+kernel) (by decide+kernel)
theorem sj:si [b0 ⟨#[78]⟩ ⟨#[103]⟩]:=vd _ _ rfl rfl (by decide+kernel) (by decide+kernel)
theorem sk:si [b0 ⟨#[77]⟩ ⟨#[103]⟩]:=vd _ _ rfl rfl (by decide+kernel) (by decide+kernel)
theorem ve{h:Hp}{v:Value}{m f:ByteArray}(tv:aP h v (b0 m f)):∃al J G ck,v=aq #[af ae 1,ah m,ag al 3 J,ag G 1 ck]:=by obtain⟨al,J,G,ck,-,e,-,-,-,-,-,-⟩:=tv.open;exact⟨al,J,G,ck,e⟩
theorem AY{h:Hp}{w:World}(G:ao h w){a b c d:Value}{t:Tree}(tv:aP h (aq #[a,b,c,d]) t):∃h',ao h' (w.alloc (.cells #[a,b,c,d] 26))/\h.le h'/\hQ h' (ag (some ⟨w.heap.size,0,none⟩) 1 1) [t]:=by
 have hn:h w.heap.size=none:=bI G _ (kI _);have O:bi (w.alloc (.cells #[a,b,c,d] 26)) w.heap.size=some #[a,b,c,d]:=by unfold bi;rw[heap_alloc_new]
 have Y:ao (h.add w.heap.size #[a,b,c,d]) (w.alloc (.cells #[a,b,c,d] 26)):=(G.alloc _).add O;have J:h.le (h.add w.heap.size #[a,b,c,d]):=Hp.eG _ hn;have e:=wa tv;refine⟨_,Y,J,[a,b,c,d],⟨_,_,rfl,(by show 1<=140737488355328;decide),rfl,.inr ⟨w.heap.size,0,_,rfl,by unfold Hp.add;rw[if_pos rfl],fun i G=>by simp⟩⟩,aJ.one (e.mono J)⟩
theorem AZ{h:Hp}{w:World}(O:ao h w){a b c d a' b' c' d':Value}{t u:Tree}(tv:aP h (aq #[a,b,c,d]) t)(ak:aP h (aq #[a',b',c',d']) u):∃h',ao h' ((w.alloc (.cells #[a,b,c,d] 26)).alloc (.cells #[a',b',c',d'] 26))/\h.le h'/\hQ h' (ag (some ⟨w.heap.size,0,none⟩) 1 1) [t]/\hQ h' (ag (some ⟨w.heap.size+1,0,none⟩) 1 1) [u]:=by
 obtain⟨h1,Y,G,aj⟩:=AY O tv;obtain⟨h2,ab,l2,J⟩:=AY Y (ak.mono G);have e:(w.alloc (.cells #[a,b,c,d] 26)).heap.size=w.heap.size+1:=by simp
 rw[e]at J;exact⟨h2,ab,Hp.le_trans G l2,aj.mono l2,J⟩
theorem Sl.A0{h:Hp}{a:Option Addr}{n m c k:Nat}{cs:List Value}(s:Sl h (ag a m c) n k cs)(hn:0<n):∃b off,a=some ⟨b,off,none⟩/\∀w,ao h w->b<w.heap.size/\∀i v,cs[i]? =some v->w.cell? ⟨b,off+i,none⟩=some v:=by
 have s':=s;obtain⟨a',c',e,h1,h2,J⟩:=s;simp only[bU]at e;obtain⟨rfl,rfl,rfl⟩:=e;rcases J with J|⟨b,off,aj,rfl,ak,hc⟩;·omega
 ·refine⟨b,off,rfl,fun w ab=> ?_⟩;obtain⟨b2,am,G,O,Y⟩:=s'.cells ab hn;simp only[aC,cx,and_true]at G;obtain⟨rfl,rfl⟩:=G;exact⟨O,Y⟩
theorem Ly{h:Hp}{v:Value}{rs:List (List (Int×Int))}(r:z6 h v rs):∃a O,v=ag a rs.length O/\∀i,i<rs.length->∃b off a' Y,a=some ⟨b,off,none⟩/\(∀w,ao h w->b<w.heap.size/\w.cell? ⟨b,off+i,none⟩=some (ag a' (rs.getD i []).length Y))/\∀j (hj:j<(rs.getD i []).length),∃b' G,a'=some ⟨b',G,none⟩/\∀w,ao h w->b'<w.heap.size/\w.cell? ⟨b',G+j*2,none⟩=some (af ae (rs.getD i [])[j].1)/\w.cell? ⟨b',G+j*2+1,none⟩=some (af ae (rs.getD i [])[j].2):=by
 obtain⟨R,o,hR⟩:=r;have ak:((aw rs.length).map R).length=rs.length:=by simp
 obtain⟨a,O,rfl,-,-,-⟩:=id o;refine⟨a,O,by rw[ak],fun i aj=> ?_⟩;obtain⟨b,off,rfl,H⟩:=Sl.A0 o (by omega);have ab:=hR i aj;obtain⟨a',Y,e',-,-,-⟩:=id ab;rw[e']at ab;refine⟨b,off,a',Y,rfl,fun w hw=>⟨(H w hw).1,(H w hw).2 i _ ?_⟩,fun j hj=> ?_⟩;·rw[List.getElem?_map,List.getElem?_range aj,Option.map_some,e']
 ·obtain⟨b',G,rfl,J⟩:=Sl.A0 ab (by omega);have q:=mE (rs.getD i []) j hj;refine⟨b',G,rfl,fun w hw=>⟨(J w hw).1,(J w hw).2 _ _ q.1,?_⟩⟩;have:=(J w hw).2 _ _ q.2;rwa[<-Nat.add_assoc]at this
theorem vg(T:fq)(N:Nat)(w:World)(tb:Tb T N w):Calls ai 9 #[] w fun e w'=>e= .returned (.bool true)/\Below w.heap.size w w':=by have cZ:=aa (Ew w);have a1:=aa tb;clear tb;go_in;go_wp2_with fail;refine(Ij _ w cZ.out).mono ?_;rintro e w1 ⟨dZ,rfl,h1,bH,bI⟩;obtain⟨al,bm,bg,ck,rfl⟩:=ve bI;have aJ:=aa bH.below;have ce:=aa bH.I;have cn:=aa bI;clear bH bI;have cv:=aa (Has.new w1 #[af ae 1,ah ⟨#[77]⟩,ag al 3 bm,ag bg 1 ck] 26);go_wp2_with fail;refine(Ik h1 _ (ce.out.alloc _)).mono ?_;rintro e w2 ⟨d1,rfl,h2,aS,bJ⟩;obtain⟨bl,cK,bk,cG,rfl⟩:=ve bJ;have aL:Hid (Below w.heap.size w w2):=(aJ.out.alloc aJ.out.size _).trans (aS.below.mono (aJ.out.alloc aJ.out.size _).size);have cf:=aa aS.I;have co:=aa (cn.out.mono aS.le);have cq:=aa bJ;have cw:=aa (cv.out.below aS.below);have cz:=aa (Has.new w2 #[af ae 1,ah ⟨#[78]⟩,ag bl 3 cK,ag bk 1 cG] 26);clear aS bJ aJ ce cn cv;go_wp2_with fail;refine(Il h2 _ (cf.out.alloc _)).mono ?_;rintro e w3 ⟨d2,rfl,du,ak,bL⟩;obtain⟨Y,ab,O,gk,rfl⟩:=ve bL;have a3:Hid (Below w.heap.size w w3):=(aL.out.alloc aL.out.size _).trans (ak.below.mono (aL.out.alloc aL.out.size _).size);have cg:=aa ak.I;have a9:=aa (co.out.mono ak.le);have ct:=aa (cq.out.mono ak.le);have cu:=aa bL;have cA:=aa ((cw.out.alloc _).below ak.below);have cB:=aa (cz.out.below ak.below);have ba:=aa (Has.new w3 #[af ae 1,ah ⟨#[77]⟩,ag Y 3 ab,ag O 1 gk] 26);have aM:Hid (Below w.heap.size w (w3.alloc (.cells #[af ae 1,ah ⟨#[77]⟩,ag Y 3 ab,ag O 1 gk] 26))):=a3.out.alloc a3.out.size _;have cl:Hid (ao du (w3.alloc (.cells #[af ae 1,ah ⟨#[77]⟩,ag Y 3 ab,ag O 1 gk] 26))):=cg.out.alloc _;have a2:Hid (Has (w3.alloc (.cells #[af ae 1,ah ⟨#[77]⟩,ag Y 3 ab,ag O 1 gk] 26)) w1.heap.size _):=cA.out.alloc _;have cC:Hid (Has (w3.alloc (.cells #[af ae 1,ah ⟨#[77]⟩,ag Y 3 ab,ag O 1 gk] 26)) w2.heap.size _):=cB.out.alloc _;clear ak bL aL cf co cq cw cz a3 cg cA cB;go_upto_region 4 with fail;generalize w3.alloc (.cells #[af ae 1,ah ⟨#[77]⟩,ag Y 3 ab,ag O 1 gk] 26)=dN at*;generalize w1.heap.size=b1 at*;generalize w2.heap.size=b2 at*;generalize w3.heap.size=b3 at*;obtain⟨⟨bN,bO,bR,bS⟩,bp,bq,bv,bz⟩:=a2.out.four;obtain⟨⟨bT,bV,bX,bY⟩,g0,g1,g2,bA⟩:=ba.out.four;have bC:=a2.out.lt;have bE:=ba.out.lt;go_wp2_with fail;obtain⟨dv,ch,bB,cS,cV⟩:=AZ cl.out a9.out cu.out;have aV:Hid (Below w.heap.size w ((dN.alloc (.cells #[af ae 1,ah ⟨#[77]⟩,ag al 3 bm,ag bg 1 ck] 26)).alloc (.cells #[af ae 1,ah ⟨#[77]⟩,ag Y 3 ab,ag O 1 gk] 26))):=(aM.out.alloc aM.out.size _).alloc (aM.out.alloc aM.out.size _).size _;refine(u2 T N dv _ ch (a1.out.below (aV.out.mono a1.out.1)) _ _ _ _ cS cV 100 (by unfold aG;omega) ni.prog sk.prog ni.texts sk.texts ni.jw sk.jw ni.oe sk.oe).mono ?_;rintro e aB ⟨dU,dw,rfl,am,a5⟩;rw[AX.2];rw[AX.1]at a5;obtain⟨dX,aj,rfl,hr⟩:=Ly a5;obtain⟨J,of,na,dC,rfl,aN,ax⟩:=hr 0 (by decide);obtain⟨bG,nf,rfl,aO⟩:=ax 5 (by decide);clear hr ax;have cc:=aa aN;have cd:=aa aO;clear aN aO;have bZ:Hid (Below w.heap.size w aB):=aV.out.trans (am.below.mono aV.out.size);have c6:=aa am.I;have c8:=aa ((a9.out.mono bB).mono am.le);have c9:=aa ((ct.out.mono bB).mono am.le);have dg:=aa (((a2.out.alloc _).alloc _).below am.below);have dh:=aa (((cC.out.alloc _).alloc _).below am.below);clear am a5 ch bB cS cV aV bN bO bR bS bT bV bX bY bp bq bv bz g0 g1 g2 bA bC bE a9 ct cu a2 cC ba aM cl;have aY:Hid (Below w.heap.size w (aB.alloc (.cells #[ag (some ⟨J,of,none⟩) 1 aj,af ae 1,af ae (eD (aX T) 100 [b0 ⟨#[77]⟩ ⟨#[102]⟩] [b0 ⟨#[77]⟩ ⟨#[103]⟩]).a7] 31))):=bZ.out.alloc bZ.out.size _;have cm:Hid (ao dw (aB.alloc (.cells #[ag (some ⟨J,of,none⟩) 1 aj,af ae 1,af ae (eD (aX T) 100 [b0 ⟨#[77]⟩ ⟨#[102]⟩] [b0 ⟨#[77]⟩ ⟨#[103]⟩]).a7] 31))):=c6.out.alloc _;have cD:=aa (dg.out.alloc (.cells #[ag (some ⟨J,of,none⟩) 1 aj,af ae 1,af ae (eD (aX T) 100 [b0 ⟨#[77]⟩ ⟨#[102]⟩] [b0 ⟨#[77]⟩ ⟨#[103]⟩]).a7] 31));have cE:=aa (dh.out.alloc (.cells #[ag (some ⟨J,of,none⟩) 1 aj,af ae 1,af ae (eD (aX T) 100 [b0 ⟨#[77]⟩ ⟨#[102]⟩] [b0 ⟨#[77]⟩ ⟨#[103]⟩]).a7] 31));have cF:=aa (Has.new aB #[ag (some ⟨J,of,none⟩) 1 aj,af ae 1,af ae (eD (aX T) 100 [b0 ⟨#[77]⟩ ⟨#[102]⟩] [b0 ⟨#[77]⟩ ⟨#[103]⟩]).a7] 31);go_upto_region 5 with fail;generalize(eD (aX T) 100 [b0 ⟨#[77]⟩ ⟨#[102]⟩] [b0 ⟨#[77]⟩ ⟨#[103]⟩]).a7=dm at*;generalize aB.alloc (.cells #[ag (some ⟨J,of,none⟩) 1 aj,af ae 1,af ae dm] 31)=wc at*;generalize aB.heap.size=cQ at*;obtain⟨⟨bN,bO,bR,bS⟩,bp,bq,bv,bz⟩:=cD.out.four;obtain⟨⟨bT,bV,bX,bY⟩,g0,g1,g2,bA⟩:=cE.out.four;have bC:=cD.out.lt;have bE:=cE.out.lt;have cN:=cF.out.lt;go_wp2_with fail;obtain⟨dA,cj,dB,cU,cX⟩:=AZ cm.out c8.out c9.out;have aZ:Hid (Below w.heap.size w ((wc.alloc (.cells #[af ae 1,ah ⟨#[77]⟩,ag al 3 bm,ag bg 1 ck] 26)).alloc (.cells #[af ae 1,ah ⟨#[78]⟩,ag bl 3 cK,ag bk 1 cG] 26))):=(aY.out.alloc aY.out.size _).alloc (aY.out.alloc aY.out.size _).size _;refine(u2 T N dA _ cj (a1.out.below (aZ.out.mono a1.out.1)) _ _ _ _ cU cX 100 (by unfold aG;omega) ni.prog sj.prog ni.texts sj.texts ni.jw sj.jw ni.oe sj.oe).mono ?_;rintro e G ⟨dW,h7,rfl,aT,a8⟩;rw[Ir]at a8;have b9:Hid (Below w.heap.size w G):=aZ.out.trans (aT.below.mono aZ.out.size);have cY:Hid (∀o,Below w.heap.size w (G.alloc o)):=fun o=>b9.out.alloc b9.out.size o;have ci:=aa (((cm.out.alloc _).alloc _).below aT.below);have a4:=aa aT.I;have bd:=aa (((cF.out.alloc _).alloc _).below aT.below);clear aT cj dB cU cX aZ bN bO bR bS bT bV bX bY bp bq bv bz g0 g1 g2 bA bC bE cN;obtain⟨rb,dY,rfl,hr⟩:=Ly a8;obtain⟨dF,dG,dQ,mc,rfl,aN,ax⟩:=hr 0 (by decide);obtain⟨aP,aQ,rfl,aO⟩:=ax 0 (by decide);obtain⟨dR,dT,e,cM⟩:=ax 1 (by decide);simp only[aC,cx,and_true]at e;obtain⟨rfl,rfl⟩:=e;clear hr ax;obtain⟨dO,di⟩:=cc.out G ci.out;obtain⟨c1,c2,c3⟩:=cd.out G ci.out;obtain⟨dP,dk⟩:=aN G a4.out;obtain⟨c4,c5,dn⟩:=aO G a4.out;obtain⟨dp,dr,dt⟩:=cM G a4.out;clear aN aO cM a8 cc cd;have dD:=bd.out.cl 0;have dE:=bd.out.cl 1;have cN:=bd.out.lt;change G.cell? ⟨cQ,0,none⟩=some (ag (some ⟨J,of,none⟩) 1 aj)at dD;change G.cell? ⟨cQ,1,none⟩=some (af ae 1)at dE;change G.cell? ⟨J,of,none⟩=some (ag (some ⟨bG,nf,none⟩) 6 dC)at di;change G.cell? ⟨bG,nf+10,none⟩=some (af ae 0)at c2;change G.cell? ⟨bG,nf+11,none⟩=some (af ae 5)at c3;change G.cell? ⟨dF,dG,none⟩=some (ag (some ⟨aP,aQ,none⟩) 6 mc)at dk;change G.cell? ⟨aP,aQ,none⟩=some (af ae (-1))at c5;change G.cell? ⟨aP,aQ+1,none⟩=some (af ae 0)at dn;change G.cell? ⟨aP,aQ+2,none⟩=some (af ae 0)at dr;change G.cell? ⟨aP,aQ+3,none⟩=some (af ae 1)at dt;clear dp;go_wp2_with fail;refine aF (v:= .bool true) (by simp[results,Tryz.results9,go_sem]) rfl ⟨rfl,?_⟩;exact cY.out _
end Go.Proofs.YtdplggpbgommnaaGreatDoor
