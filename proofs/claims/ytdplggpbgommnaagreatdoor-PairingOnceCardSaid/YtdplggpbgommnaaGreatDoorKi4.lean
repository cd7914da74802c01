/- semvcsref02.pieces, by kinds. -/
import Derived.Test.YtdplggpbgommnaaGreatDoorG23
open Go.Addr.mk renaming injEq->cx
open Go.IntKind renaming i64->ae
open Go.Lib renaming hid->aa
open Go.Proofs.Tryz renaming prog->ai
open Go.Value renaming int->af,slice->ag,string->ah
open List renaming getElem_mem->aK,take_length->cP
open Nat renaming add_assoc->bP,add_zero->dz,one_mul->Ld,reduceAdd->fM,zero_mul->Kg
open Option.some renaming injEq->aC
set_option maxRecDepth 100000
set_option maxHeartbeats 4000000
namespace Go.Proofs.YtdplggpbgommnaaGreatDoor
open Go.RowKit
theorem IY(m:Nat)(E:eP m)(t:Tree)(aT:t.size<=m+1)(rt:RT t)(ab:t.kind=5)(h:Hp)(B:Nat)(w:World)(v:Value)(n:Nat)(xs:List Value)(p:bN h B w v n xs v w)(hn:n+9*t.size<=4000000)(tv:Value)(J:aP h tv t):Calls ai 173 #[v,tv] w (e9 h B w v n t.size):=by
 have aV:=aa E;have aZ:=aa rt;have aL:=aa rt.2;have a2:Sh1 t.text:=rt.1.text;have aN:=aa p;have hz:=Tree.size_eq t;have aY:Hid (∀i (Y:i<t.kids.length),t.kids[i].size<=m):=fun i Y=>by have:=dB (aK Y);omega
 obtain⟨al,aQ,aO,ck,ys,rfl,-,a4,a3,aS,ak,he⟩:=J.open;have a1:=aa ak;have aX:=aa he;have aj:=rt.1.leads;rw[ab]at aj J⊢;have aM:=aa J;have a5:1<=t.size:=by omega
 clear E rt J aS ak he ab hz aj aT;have G:=aa (PX.start p #[af ae 5,ah t.text,ag al t.leads.length aQ,ag aO t.kids.length ck] 26);clear p;obtain⟨⟨ax,aB,aG,aJ⟩,-⟩:=G.out.has.four;have am:=G.out.has.lt;go_in
 go_wp2_with(first
  |(go_at_call 198;refine(dn h _ G.out.ps.I _ t aM.out aL.out _ (by omega)).mono ?_;rintro e bd ⟨⟨a9,rfl,a8⟩,O⟩;replace G:=aa (G.out.below O);have⟨⟨ax,aB,aG,aJ⟩,_⟩:=G.out.has.four;have am:=G.out.has.lt;clear O)
  |(at_builtin;refine G.out.ky 1 ?_;intro ba bg ao;replace G:=aa ao;have⟨⟨ax,aB,aG,aJ⟩,_⟩:=G.out.has.four;have am:=G.out.has.lt;clear ao))
 go_ret;exact⟨_,_,_,rfl,G.out.fin aN.out,by omega⟩
theorem IZ(m:Nat)(E:eP m)(t:Tree)(aT:t.size<=m+1)(rt:RT t)(ab:t.kind=6)(h:Hp)(B:Nat)(w:World)(v:Value)(n:Nat)(xs:List Value)(p:bN h B w v n xs v w)(hn:n+9*t.size<=4000000)(tv:Value)(J:aP h tv t):Calls ai 173 #[v,tv] w (e9 h B w v n t.size):=by
 have aV:=aa E;have aZ:=aa rt;have aL:=aa rt.2;have a2:Sh1 t.text:=rt.1.text;have aN:=aa p;have hz:=Tree.size_eq t;have aY:Hid (∀i (Y:i<t.kids.length),t.kids[i].size<=m):=fun i Y=>by have:=dB (aK Y);omega
 obtain⟨al,aQ,aO,ck,ys,rfl,-,a4,a3,aS,ak,he⟩:=J.open;have a1:=aa ak;have aX:=aa he;have aj:=rt.1.leads;rw[ab]at aj J⊢;have aM:=aa J;have a5:1<=t.size:=by omega
 clear E rt J aS ak he ab hz aj aT;have G:=aa (PX.start p #[af ae 6,ah t.text,ag al t.leads.length aQ,ag aO t.kids.length ck] 26);clear p;obtain⟨⟨ax,aB,aG,aJ⟩,-⟩:=G.out.has.four;have am:=G.out.has.lt;go_in
 go_wp2_with(first
  |(go_at_call 198;refine(dn h _ G.out.ps.I _ t aM.out aL.out _ (by omega)).mono ?_;rintro e bd ⟨⟨a9,rfl,a8⟩,O⟩;replace G:=aa (G.out.below O);have⟨⟨ax,aB,aG,aJ⟩,_⟩:=G.out.has.four;have am:=G.out.has.lt;clear O)
  |(at_builtin;refine G.out.ky 1 ?_;intro ba bg ao;replace G:=aa ao;have⟨⟨ax,aB,aG,aJ⟩,_⟩:=G.out.has.four;have am:=G.out.has.lt;clear ao))
 go_ret;exact⟨_,_,_,rfl,G.out.fin aN.out,by omega⟩
theorem I0(m:Nat)(E:eP m)(t:Tree)(aT:t.size<=m+1)(rt:RT t)(ab:t.kind=7)(h:Hp)(B:Nat)(w:World)(v:Value)(n:Nat)(xs:List Value)(p:bN h B w v n xs v w)(hn:n+9*t.size<=4000000)(tv:Value)(J:aP h tv t):Calls ai 173 #[v,tv] w (e9 h B w v n t.size):=by
 have aV:=aa E;have aZ:=aa rt;have aL:=aa rt.2;have a2:Sh1 t.text:=rt.1.text;have aN:=aa p;have hz:=Tree.size_eq t;have aY:Hid (∀i (Y:i<t.kids.length),t.kids[i].size<=m):=fun i Y=>by have:=dB (aK Y);omega
 obtain⟨al,aQ,aO,ck,ys,rfl,-,a4,a3,aS,ak,he⟩:=J.open;have a1:=aa ak;have aX:=aa he;have aj:=rt.1.leads;rw[ab]at aj J⊢;have aM:=aa J;have a5:1<=t.size:=by omega
 clear E rt J aS ak he ab hz aj aT;have G:=aa (PX.start p #[af ae 7,ah t.text,ag al t.leads.length aQ,ag aO t.kids.length ck] 26);clear p;obtain⟨⟨ax,aB,aG,aJ⟩,-⟩:=G.out.has.four;have am:=G.out.has.lt;go_in
 go_wp2_with(first
  |(go_at_call 198;refine(dn h _ G.out.ps.I _ t aM.out aL.out _ (by omega)).mono ?_;rintro e bd ⟨⟨a9,rfl,a8⟩,O⟩;replace G:=aa (G.out.below O);have⟨⟨ax,aB,aG,aJ⟩,_⟩:=G.out.has.four;have am:=G.out.has.lt;clear O)
  |(at_builtin;refine G.out.ky 1 ?_;intro ba bg ao;replace G:=aa ao;have⟨⟨ax,aB,aG,aJ⟩,_⟩:=G.out.has.four;have am:=G.out.has.lt;clear ao))
 go_ret;exact⟨_,_,_,rfl,G.out.fin aN.out,by omega⟩
theorem I6(m:Nat)(E:eP m)(t:Tree)(bR:t.size<=m+1)(rt:RT t)(a8:t.kind=20)(h:Hp)(B:Nat)(w:World)(v:Value)(n:Nat)(xs:List Value)(p:bN h B w v n xs v w)(hn:n+9*t.size<=4000000)(tv:Value)(aQ:aP h tv t):Calls ai 173 #[v,tv] w (e9 h B w v n t.size):=by
 have aV:=aa E;have a1:=aa rt;have aZ:=aa rt.2;have ce:Sh1 t.text:=rt.1.text;have bm:=aa p;have hz:=Tree.size_eq t;have aY:Hid (∀i (a5:i<t.kids.length),t.kids[i].size<=m):=fun i a5=>by have:=dB (aK a5);omega
 obtain⟨al,aS,cf,ck,ys,rfl,-,cn,cm,bL,ba,he⟩:=aQ.open;have a2:=aa ba;have aX:=aa he;have aO:=rt.1.leads;rw[a8]at aO aQ⊢;have a3:=aa aQ;have a9:t.kids.length=2:=by unfold b9 at aO;simp at aO;omega
 have bS:0<t.kids.length:=by omega
 have bT:1<t.kids.length:=by omega
 have co:(t.kids[0]'bS).size+(t.kids[1]'bT).size+1<=t.size:=by have e:=hz;rw[<-cP (l:=t.kids),a9,eY t.kids 1 (by omega),eY t.kids 0 (by omega)]at e;simp[ax]at e;omega
 have v0:(0:Int)<(t.kids.length:Int):=by omega
 have ct:(1:Int)<(t.kids.length:Int):=by omega
 clear a9;clear E rt aQ bL ba he a8 hz aO bR;obtain⟨b,off,bz,bB,bv,bA,rfl,aJ,ak⟩:=ed a2.out aX.out 0 (by omega);simp only[Kg,dz]at ak;have bd:=aa aJ;have aN:=aa ak;have bH:=aa (aY.out 0 (by omega));have bp:=aa (a1.out.b4 0 (by omega));clear aJ ak;obtain⟨b1,cq,ci,cl,ch,cj,a4,aJ,ak⟩:=ed a2.out aX.out 1 (by omega);simp only[aC,cx,and_true]at a4;obtain⟨bC,bE⟩:=a4;subst bC;subst bE;simp only[Ld,bP,fM]at ak;have bg:=aa aJ;have aT:=aa ak;have bI:=aa (aY.out 1 (by omega));have bq:=aa (a1.out.b4 1 (by omega));clear aJ ak;have G:=aa (PX.start p #[af ae 20,ah t.text,ag al t.leads.length aS,ag (some ⟨b,off,none⟩) t.kids.length ck] 26);clear p;obtain⟨⟨J,O,Y,ab⟩,-⟩:=G.out.has.four;have aj:=G.out.has.lt;go_in;go_wp2_with fail;replace G:=aa G.out.drew;have⟨⟨J,O,Y,ab⟩,_⟩:=G.out.has.four;have aj:=G.out.has.lt
 go_region_held3(fun w'=>w'.cell? ⟨w.heap.size,0,none⟩=some (af ae 20)/\w'.cell? ⟨w.heap.size,1,none⟩=some (ah t.text)/\w'.cell? ⟨w.heap.size,2,none⟩=some (ag al t.leads.length aS)/\w'.cell? ⟨w.heap.size,3,none⟩=some (ag (some ⟨b,off,none⟩) t.kids.length ck)) (first|(go_keep;done)|exact⟨J,O,Y,ab⟩) (first
  |(go_at_call 198;refine(dn h _ G.out.ps.I _ t a3.out aZ.out _ (by omega)).mono ?_;rintro e bZ ⟨⟨bX,rfl,bO⟩,aG⟩;replace G:=aa (G.out.below aG);have⟨⟨J,O,Y,ab⟩,_⟩:=G.out.has.four;have aj:=G.out.has.lt;clear aG)
  |(refine G.out.fG 3 ?_;intro bG cg b0 aL;replace G:=aa aL;have⟨⟨J,O,Y,ab⟩,_⟩:=G.out.has.four;have aj:=G.out.has.lt;clear aL))
 all_goals
  go_wp2_with fail;replace G:=aa G.out.drew;have⟨⟨J,O,Y,ab⟩,_⟩:=G.out.has.four;have aj:=G.out.has.lt;have⟨d0,am,ao,aB⟩:=aN.out _ G.out.ps.I
  go_region_held3(fun w'=>w'.cell? ⟨w.heap.size,0,none⟩=some (af ae 20)/\w'.cell? ⟨w.heap.size,1,none⟩=some (ah t.text)/\w'.cell? ⟨w.heap.size,2,none⟩=some (ag al t.leads.length aS)/\w'.cell? ⟨w.heap.size,3,none⟩=some (ag (some ⟨b,off,none⟩) t.kids.length ck)/\w'.cell? ⟨b,off,none⟩=some (af ae t.kids[0].kind)/\w'.cell? ⟨b,off+1,none⟩=some (ah t.kids[0].text)/\w'.cell? ⟨b,off+2,none⟩=some (ag bz t.kids[0].leads.length bB)/\w'.cell? ⟨b,off+3,none⟩=some (ag bv t.kids[0].kids.length bA)) (first|(go_keep;done)|exact⟨J,O,Y,ab,d0,am,ao,aB⟩) (first
   |(go_at_call 173;refine(aV.out t.kids[0] bH.out bp.out h B _ _ _ _ G.out.BZ (by omega) _ bd.out).mono ?_;rintro e cc ⟨bY,bV,cd,rfl,aM,bJ⟩;replace G:=aa (G.out.call aM);have⟨⟨J,O,Y,ab⟩,_⟩:=G.out.has.four;have aj:=G.out.has.lt;have⟨d0,am,ao,aB⟩:=aN.out _ G.out.ps.I;clear aM)
   |(go_at_call 198;refine(dn h _ G.out.ps.I _ t a3.out aZ.out _ (by omega)).mono ?_;rintro e bZ ⟨⟨bX,rfl,bO⟩,aG⟩;replace G:=aa (G.out.below aG);have⟨⟨J,O,Y,ab⟩,_⟩:=G.out.has.four;have aj:=G.out.has.lt;have⟨d0,am,ao,aB⟩:=aN.out _ G.out.ps.I;clear aG)
   |(refine G.out.fG 1 ?_;intro bG cg b0 aL;replace G:=aa aL;have⟨⟨J,O,Y,ab⟩,_⟩:=G.out.has.four;have aj:=G.out.has.lt;have⟨d0,am,ao,aB⟩:=aN.out _ G.out.ps.I;clear aL))
  all_goals
   have⟨d0,am,ao,aB⟩:=aT.out _ G.out.ps.I
   go_wp2_with(first
    |(go_at_call 173;refine(aV.out t.kids[1] bI.out bq.out h B _ _ _ _ G.out.BZ (by omega) _ bg.out).mono ?_;rintro e cc ⟨bY,bV,cd,rfl,aM,bJ⟩;replace G:=aa (G.out.call aM);have⟨⟨J,O,Y,ab⟩,_⟩:=G.out.has.four;have aj:=G.out.has.lt;have⟨d0,am,ao,aB⟩:=aT.out _ G.out.ps.I;clear aM))
   go_ret;exact⟨_,_,_,rfl,G.out.fin bm.out,by omega⟩
theorem I7(m:Nat)(E:eP m)(t:Tree)(bL:t.size<=m+1)(rt:RT t)(a3:t.kind=21)(h:Hp)(B:Nat)(w:World)(v:Value)(n:Nat)(xs:List Value)(p:bN h B w v n xs v w)(hn:n+9*t.size<=4000000)(tv:Value)(aN:aP h tv t):Calls ai 173 #[v,tv] w (e9 h B w v n t.size):=by
 have aQ:=aa E;have aV:=aa rt;have a9:=aa rt.2;have bY:Sh1 t.text:=rt.1.text;have bm:=aa p;have hz:=Tree.size_eq t;have aT:Hid (∀i (a2:i<t.kids.length),t.kids[i].size<=m):=fun i a2=>by have:=dB (aK a2);omega
 obtain⟨al,aZ,bZ,ck,ys,rfl,-,ci,ch,bJ,a5,he⟩:=aN.open;have aX:=aa a5;have aS:=aa he;have aM:=rt.1.leads;rw[a3]at aM aN⊢;have ba:=aa aN;have a4:t.kids.length=2:=by unfold b9 at aM;simp at aM;omega
 have bO:0<t.kids.length:=by omega
 have bR:1<t.kids.length:=by omega
 have cj:(t.kids[0]'bO).size+(t.kids[1]'bR).size+1<=t.size:=by have e:=hz;rw[<-cP (l:=t.kids),a4,eY t.kids 1 (by omega),eY t.kids 0 (by omega)]at e;simp[ax]at e;omega
 have v0:(0:Int)<(t.kids.length:Int):=by omega
 have co:(1:Int)<(t.kids.length:Int):=by omega
 clear a4;clear E rt aN bJ a5 he a3 hz aM bL;obtain⟨b,off,bz,bB,bv,bA,rfl,aB,J⟩:=ed aX.out aS.out 0 (by omega);simp only[Kg,dz]at J;have bd:=aa aB;have aL:=aa J;have bG:=aa (aT.out 0 (by omega));have bp:=aa (aV.out.b4 0 (by omega));clear aB J;obtain⟨b1,cm,cc,ce,b0,cd,a1,aB,J⟩:=ed aX.out aS.out 1 (by omega);simp only[aC,cx,and_true]at a1;obtain⟨bC,bE⟩:=a1;subst bC;subst bE;simp only[Ld,bP,fM]at J;have bg:=aa aB;have aO:=aa J;have bH:=aa (aT.out 1 (by omega));have bq:=aa (aV.out.b4 1 (by omega));clear aB J;have G:=aa (PX.start p #[af ae 21,ah t.text,ag al t.leads.length aZ,ag (some ⟨b,off,none⟩) t.kids.length ck] 26);clear p;obtain⟨⟨aj,ak,am,ao⟩,-⟩:=G.out.has.four;have aG:=G.out.has.lt;go_in;go_wp2_with fail;replace G:=aa G.out.drew;have⟨⟨aj,ak,am,ao⟩,_⟩:=G.out.has.four;have aG:=G.out.has.lt;have⟨d0,O,Y,ab⟩:=aL.out _ G.out.ps.I
 go_region_held3(fun w'=>w'.cell? ⟨w.heap.size,0,none⟩=some (af ae 21)/\w'.cell? ⟨w.heap.size,1,none⟩=some (ah t.text)/\w'.cell? ⟨w.heap.size,2,none⟩=some (ag al t.leads.length aZ)/\w'.cell? ⟨w.heap.size,3,none⟩=some (ag (some ⟨b,off,none⟩) t.kids.length ck)/\w'.cell? ⟨b,off,none⟩=some (af ae t.kids[0].kind)/\w'.cell? ⟨b,off+1,none⟩=some (ah t.kids[0].text)/\w'.cell? ⟨b,off+2,none⟩=some (ag bz t.kids[0].leads.length bB)/\w'.cell? ⟨b,off+3,none⟩=some (ag bv t.kids[0].kids.length bA)) (first|(go_keep;done)|exact⟨aj,ak,am,ao,d0,O,Y,ab⟩) (first
  |(go_at_call 173;refine(aQ.out t.kids[0] bG.out bp.out h B _ _ _ _ G.out.BZ (by omega) _ bd.out).mono ?_;rintro e bV ⟨bT,bS,bX,rfl,aJ,bI⟩;replace G:=aa (G.out.call aJ);have⟨⟨aj,ak,am,ao⟩,_⟩:=G.out.has.four;have aG:=G.out.has.lt;have⟨d0,O,Y,ab⟩:=aL.out _ G.out.ps.I;clear aJ)
  |(go_at_call 198;refine(dn h _ G.out.ps.I _ t ba.out a9.out _ (by omega)).mono ?_;rintro e cq ⟨⟨cn,rfl,cl⟩,aY⟩;replace G:=aa (G.out.below aY);have⟨⟨aj,ak,am,ao⟩,_⟩:=G.out.has.four;have aG:=G.out.has.lt;have⟨d0,O,Y,ab⟩:=aL.out _ G.out.ps.I;clear aY)
  |(refine G.out.fG 1 ?_;intro cf cg ct a8;replace G:=aa a8;have⟨⟨aj,ak,am,ao⟩,_⟩:=G.out.has.four;have aG:=G.out.has.lt;have⟨d0,O,Y,ab⟩:=aL.out _ G.out.ps.I;clear a8))
 all_goals
  have⟨d0,O,Y,ab⟩:=aO.out _ G.out.ps.I
  go_wp2_with(first
   |(go_at_call 173;refine(aQ.out t.kids[1] bH.out bq.out h B _ _ _ _ G.out.BZ (by omega) _ bg.out).mono ?_;rintro e bV ⟨bT,bS,bX,rfl,aJ,bI⟩;replace G:=aa (G.out.call aJ);have⟨⟨aj,ak,am,ao⟩,_⟩:=G.out.has.four;have aG:=G.out.has.lt;have⟨d0,O,Y,ab⟩:=aO.out _ G.out.ps.I;clear aJ))
  go_ret;exact⟨_,_,_,rfl,G.out.fin bm.out,by omega⟩
theorem I8(m:Nat)(E:eP m)(t:Tree)(bB:t.size<=m+1)(rt:RT t)(aV:t.kind=22)(h:Hp)(B:Nat)(w:World)(v:Value)(n:Nat)(xs:List Value)(p:bN h B w v n xs v w)(hn:n+9*t.size<=4000000)(tv:Value)(aM:aP h tv t):Calls ai 173 #[v,tv] w (e9 h B w v n t.size):=by
 have a2:=aa E;have a5:=aa rt;have aO:=aa rt.2;have bI:Sh1 t.text:=rt.1.text;have ba:=aa p;have hz:=Tree.size_eq t;have a4:Hid (∀i (aT:i<t.kids.length),t.kids[i].size<=m):=fun i aT=>by have:=dB (aK aT);omega
 obtain⟨al,aS,bJ,ck,ys,rfl,-,bR,bO,bz,aY,he⟩:=aM.open;have a8:=aa aY;have a3:=aa he;have aL:=rt.1.leads;rw[aV]at aL aM⊢;have aQ:=aa aM;have aX:t.kids.length=1:=by unfold b9 at aL;simp at aL;omega
 have bC:0<t.kids.length:=by omega
 have bT:(t.kids[0]'bC).size+1<=t.size:=by have e:=hz;rw[<-cP (l:=t.kids),aX,eY t.kids 0 (by omega)]at e;simp[ax]at e;omega
 have v0:(0:Int)<(t.kids.length:Int):=by omega
 clear aX;clear E rt aM bz aY he aV hz aL bB;obtain⟨b,off,bm,bq,bg,bp,rfl,aZ,aN⟩:=ed a8.out a3.out 0 (by omega);simp only[Kg,dz]at aN;have a9:=aa aZ;have ao:=aa aN;have bv:=aa (a4.out 0 (by omega));have bd:=aa (a5.out.b4 0 (by omega));clear aZ aN;have G:=aa (PX.start p #[af ae 22,ah t.text,ag al t.leads.length aS,ag (some ⟨b,off,none⟩) t.kids.length ck] 26);clear p;obtain⟨⟨J,O,Y,ab⟩,-⟩:=G.out.has.four;have aj:=G.out.has.lt;go_in
 go_wp2_with(first
  |(go_at_call 198;refine(dn h _ G.out.ps.I _ t aQ.out aO.out _ (by omega)).mono ?_;rintro e bG ⟨⟨bE,rfl,bA⟩,ak⟩;replace G:=aa (G.out.below ak);have⟨⟨J,O,Y,ab⟩,_⟩:=G.out.has.four;have aj:=G.out.has.lt;clear ak)
  |(at_builtin;refine G.out.ky 1 ?_;intro bX bH am;replace G:=aa am;have⟨⟨J,O,Y,ab⟩,_⟩:=G.out.has.four;have aj:=G.out.has.lt;clear am))
 replace G:=aa G.out.drew;have⟨⟨J,O,Y,ab⟩,_⟩:=G.out.has.four;have aj:=G.out.has.lt;have⟨d0,aB,aG,aJ⟩:=ao.out _ G.out.ps.I
 go_region_held3(fun w'=>w'.cell? ⟨w.heap.size,0,none⟩=some (af ae 22)/\w'.cell? ⟨w.heap.size,1,none⟩=some (ah t.text)/\w'.cell? ⟨w.heap.size,2,none⟩=some (ag al t.leads.length aS)/\w'.cell? ⟨w.heap.size,3,none⟩=some (ag (some ⟨b,off,none⟩) t.kids.length ck)/\w'.cell? ⟨b,off,none⟩=some (af ae t.kids[0].kind)/\w'.cell? ⟨b,off+1,none⟩=some (ah t.kids[0].text)/\w'.cell? ⟨b,off+2,none⟩=some (ag bm t.kids[0].leads.length bq)/\w'.cell? ⟨b,off+3,none⟩=some (ag bg t.kids[0].kids.length bp)) (first|(go_keep;done)|exact⟨J,O,Y,ab,d0,aB,aG,aJ⟩) (first
  |(go_at_call 173;refine(a2.out t.kids[0] bv.out bd.out h B _ _ _ _ G.out.BZ (by omega) _ a9.out).mono ?_;rintro e bZ ⟨bY,bV,b0,rfl,a1,bS⟩;replace G:=aa (G.out.call a1);have⟨⟨J,O,Y,ab⟩,_⟩:=G.out.has.four;have aj:=G.out.has.lt;have⟨d0,aB,aG,aJ⟩:=ao.out _ G.out.ps.I;clear a1)
  |(go_at_call 198;refine(dn h _ G.out.ps.I _ t aQ.out aO.out _ (by omega)).mono ?_;rintro e bG ⟨⟨bE,rfl,bA⟩,ak⟩;replace G:=aa (G.out.below ak);have⟨⟨J,O,Y,ab⟩,_⟩:=G.out.has.four;have aj:=G.out.has.lt;have⟨d0,aB,aG,aJ⟩:=ao.out _ G.out.ps.I;clear ak)
  |(refine G.out.fG 1 ?_;intro bL cg bH am;replace G:=aa am;have⟨⟨J,O,Y,ab⟩,_⟩:=G.out.has.four;have aj:=G.out.has.lt;have⟨d0,aB,aG,aJ⟩:=ao.out _ G.out.ps.I;clear am))
 all_goals
  go_wp2_with fail;go_ret;exact⟨_,_,_,rfl,G.out.fin ba.out,by omega⟩
end Go.Proofs.YtdplggpbgommnaaGreatDoor
