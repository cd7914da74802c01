/- semvcsref02.pieces, by kinds. -/
import Derived.Test.YtdplggpbgommnaaGreatDoorG23
open Go.Addr.mk renaming injEq->cx
open Go.IntKind renaming i64->ae
open Go.Lib renaming hid->aa
open Go.Proofs.Tryz renaming prog->ai
open Go.Value renaming int->af,slice->ag,string->ah
open List renaming getElem_mem->aK,take_length->cP
open Nat renaming add_assoc->bP,add_zero->dz,reduceAdd->fM,zero_mul->Kg
open Option.some renaming injEq->aC
set_option maxRecDepth 100000
set_option maxHeartbeats 4000000
namespace Go.Proofs.YtdplggpbgommnaaGreatDoor
open Go.RowKit
theorem I1(m:Nat)(E:eP m)(t:Tree)(bB:t.size<=m+1)(rt:RT t)(aV:t.kind=8)(h:Hp)(B:Nat)(w:World)(v:Value)(n:Nat)(xs:List Value)(p:bN h B w v n xs v w)(hn:n+9*t.size<=4000000)(tv:Value)(aM:aP h tv t):Calls ai 173 #[v,tv] w (e9 h B w v n t.size):=by
 have a2:=aa E;have a5:=aa rt;have aO:=aa rt.2;have bI:Sh1 t.text:=rt.1.text;have ba:=aa p;have hz:=Tree.size_eq t;have a4:Hid (∀i (aT:i<t.kids.length),t.kids[i].size<=m):=fun i aT=>by have:=dB (aK aT);omega
 obtain⟨al,aS,bJ,ck,ys,rfl,-,bR,bO,bz,aY,he⟩:=aM.open;have a8:=aa aY;have a3:=aa he;have aL:=rt.1.leads;rw[aV]at aL aM⊢;have aQ:=aa aM;have aX:t.kids.length=1:=by unfold b9 at aL;simp at aL;omega
 have bC:0<t.kids.length:=by omega
 have bT:(t.kids[0]'bC).size+1<=t.size:=by have e:=hz;rw[<-cP (l:=t.kids),aX,eY t.kids 0 (by omega)]at e;simp[ax]at e;omega
 have v0:(0:Int)<(t.kids.length:Int):=by omega
 clear aX;clear E rt aM bz aY he aV hz aL bB;obtain⟨b,off,bm,bq,bg,bp,rfl,aZ,aN⟩:=ed a8.out a3.out 0 (by omega);simp only[Kg,dz]at aN;have a9:=aa aZ;have ao:=aa aN;have bv:=aa (a4.out 0 (by omega));have bd:=aa (a5.out.b4 0 (by omega));clear aZ aN;have G:=aa (PX.start p #[af ae 8,ah t.text,ag al t.leads.length aS,ag (some ⟨b,off,none⟩) t.kids.length ck] 26);clear p;obtain⟨⟨J,O,Y,ab⟩,-⟩:=G.out.has.four;have aj:=G.out.has.lt;go_in
 go_wp2_with(first
  |(go_at_call 198;refine(dn h _ G.out.ps.I _ t aQ.out aO.out _ (by omega)).mono ?_;rintro e bG ⟨⟨bE,rfl,bA⟩,ak⟩;replace G:=aa (G.out.below ak);have⟨⟨J,O,Y,ab⟩,_⟩:=G.out.has.four;have aj:=G.out.has.lt;clear ak)
  |(at_builtin;refine G.out.ky 1 ?_;intro bX bH am;replace G:=aa am;have⟨⟨J,O,Y,ab⟩,_⟩:=G.out.has.four;have aj:=G.out.has.lt;clear am))
 replace G:=aa G.out.drew;have⟨⟨J,O,Y,ab⟩,_⟩:=G.out.has.four;have aj:=G.out.has.lt;have⟨d0,aB,aG,aJ⟩:=ao.out _ G.out.ps.I
 go_region_held3(fun w'=>w'.cell? ⟨w.heap.size,0,none⟩=some (af ae 8)/\w'.cell? ⟨w.heap.size,1,none⟩=some (ah t.text)/\w'.cell? ⟨w.heap.size,2,none⟩=some (ag al t.leads.length aS)/\w'.cell? ⟨w.heap.size,3,none⟩=some (ag (some ⟨b,off,none⟩) t.kids.length ck)/\w'.cell? ⟨b,off,none⟩=some (af ae t.kids[0].kind)/\w'.cell? ⟨b,off+1,none⟩=some (ah t.kids[0].text)/\w'.cell? ⟨b,off+2,none⟩=some (ag bm t.kids[0].leads.length bq)/\w'.cell? ⟨b,off+3,none⟩=some (ag bg t.kids[0].kids.length bp)) (first|(go_keep;done)|exact⟨J,O,Y,ab,d0,aB,aG,aJ⟩) (first
  |(go_at_call 173;refine(a2.out t.kids[0] bv.out bd.out h B _ _ _ _ G.out.BZ (by omega) _ a9.out).mono ?_;rintro e bZ ⟨bY,bV,b0,rfl,a1,bS⟩;replace G:=aa (G.out.call a1);have⟨⟨J,O,Y,ab⟩,_⟩:=G.out.has.four;have aj:=G.out.has.lt;have⟨d0,aB,aG,aJ⟩:=ao.out _ G.out.ps.I;clear a1)
  |(go_at_call 198;refine(dn h _ G.out.ps.I _ t aQ.out aO.out _ (by omega)).mono ?_;rintro e bG ⟨⟨bE,rfl,bA⟩,ak⟩;replace G:=aa (G.out.below ak);have⟨⟨J,O,Y,ab⟩,_⟩:=G.out.has.four;have aj:=G.out.has.lt;have⟨d0,aB,aG,aJ⟩:=ao.out _ G.out.ps.I;clear ak)
  |(refine G.out.fG 1 ?_;intro bL cg bH am;replace G:=aa am;have⟨⟨J,O,Y,ab⟩,_⟩:=G.out.has.four;have aj:=G.out.has.lt;have⟨d0,aB,aG,aJ⟩:=ao.out _ G.out.ps.I;clear am))
 all_goals
  go_wp2_with fail;go_ret;exact⟨_,_,_,rfl,G.out.fin ba.out,by omega⟩
theorem I2(m:Nat)(E:eP m)(t:Tree)(a3:t.size<=m+1)(rt:RT t)(aN:t.kind=16)(h:Hp)(B:Nat)(w:World)(v:Value)(n:Nat)(xs:List Value)(p:bN h B w v n xs v w)(hn:n+9*t.size<=4000000)(tv:Value)(ao:aP h tv t):Calls ai 173 #[v,tv] w (e9 h B w v n t.size):=by
 have aT:=aa E;have aX:=aa rt;have aL:=aa rt.2;have bd:Sh1 t.text:=rt.1.text;have aY:=aa p;have hz:=Tree.size_eq t;have aV:Hid (∀i (aM:i<t.kids.length),t.kids[i].size<=m):=fun i aM=>by have:=dB (aK aM);omega
 obtain⟨al,aJ,aG,ck,ys,rfl,-,bm,bg,a1,aQ,he⟩:=ao.open;have ba:=aa aQ;have a9:=aa he;have aO:=rt.1.leads;rw[aN]at aO ao⊢;have aB:=aa ao;have bq:ax (t.kids.take t.kids.length)+1<=t.size:=by rw[cP];omega
 clear E rt ao a1 aQ he aN hz aO a3;have G:=aa (PX.start p #[af ae 16,ah t.text,ag al t.leads.length aJ,ag aG t.kids.length ck] 26);clear p;obtain⟨⟨J,O,Y,ab⟩,-⟩:=G.out.has.four;have aj:=G.out.has.lt;go_in;go_wp2_with fail;replace G:=aa G.out.drew;have⟨⟨J,O,Y,ab⟩,_⟩:=G.out.has.four;have aj:=G.out.has.lt
 go_region_held3(fun w'=>w'.cell? ⟨w.heap.size,0,none⟩=some (af ae 16)/\w'.cell? ⟨w.heap.size,1,none⟩=some (ah t.text)/\w'.cell? ⟨w.heap.size,2,none⟩=some (ag al t.leads.length aJ)/\w'.cell? ⟨w.heap.size,3,none⟩=some (ag aG t.kids.length ck)) (first|(go_keep;done)|exact⟨J,O,Y,ab⟩) (first
  |(go_at_call 198;refine(dn h _ G.out.ps.I _ t aB.out aL.out _ (by omega)).mono ?_;rintro e a5 ⟨⟨a4,rfl,a2⟩,ak⟩;replace G:=aa (G.out.below ak);have⟨⟨J,O,Y,ab⟩,_⟩:=G.out.has.four;have aj:=G.out.has.lt;clear ak)
  |(refine G.out.fG 2 ?_;intro aZ cg a8 am;replace G:=aa am;have⟨⟨J,O,Y,ab⟩,_⟩:=G.out.has.four;have aj:=G.out.has.lt;clear am))
 all_goals
  go_wp2_with fail;replace G:=aa G.out.drew;have⟨⟨J,O,Y,ab⟩,_⟩:=G.out.has.four;have aj:=G.out.has.lt
  go_region_held3(fun w'=>w'.cell? ⟨w.heap.size,0,none⟩=some (af ae 16)/\w'.cell? ⟨w.heap.size,1,none⟩=some (ah t.text)/\w'.cell? ⟨w.heap.size,2,none⟩=some (ag al t.leads.length aJ)/\w'.cell? ⟨w.heap.size,3,none⟩=some (ag aG t.kids.length ck)) (first|(go_keep;done)|exact⟨J,O,Y,ab⟩) (first
   |(go_at_call 199;refine(Lt m aT.out t aV.out aX.out h B _ _ _ _ G.out.BZ _ aB.out t.kids.length (by omega) 3 (by omega) (by omega) (by omega)).mono ?_;rintro e bA ⟨bz,bv,bB,rfl,aS,bp⟩;replace G:=aa (G.out.call aS);have⟨⟨J,O,Y,ab⟩,_⟩:=G.out.has.four;have aj:=G.out.has.lt;clear aS)
   |(go_at_call 198;refine(dn h _ G.out.ps.I _ t aB.out aL.out _ (by omega)).mono ?_;rintro e a5 ⟨⟨a4,rfl,a2⟩,ak⟩;replace G:=aa (G.out.below ak);have⟨⟨J,O,Y,ab⟩,_⟩:=G.out.has.four;have aj:=G.out.has.lt;clear ak)
   |(refine G.out.fG 1 ?_;intro aZ cg a8 am;replace G:=aa am;have⟨⟨J,O,Y,ab⟩,_⟩:=G.out.has.four;have aj:=G.out.has.lt;clear am))
  all_goals
   go_wp2_with fail;go_ret;exact⟨_,_,_,rfl,G.out.fin aY.out,by omega⟩
theorem I3(m:Nat)(E:eP m)(t:Tree)(a3:t.size<=m+1)(rt:RT t)(ak:t.kind=17)(h:Hp)(B:Nat)(w:World)(v:Value)(n:Nat)(xs:List Value)(p:bN h B w v n xs v w)(hn:n+9*t.size<=4000000)(tv:Value)(O:aP h tv t):Calls ai 173 #[v,tv] w (e9 h B w v n t.size):=by
 have aJ:=aa E;have aN:=aa rt;have bg:=aa rt.2;have bp:Sh1 t.text:=rt.1.text;have aS:=aa p;have hz:=Tree.size_eq t;have aM:Hid (∀i (aj:i<t.kids.length),t.kids[i].size<=m):=fun i aj=>by have:=dB (aK aj);omega
 obtain⟨al,aV,bq,ck,ys,rfl,-,bE,bC,a2,ao,he⟩:=O.open;have aO:=aa ao;have aL:=aa he;have J:=rt.1.leads;rw[ak]at J O⊢;have bm:=aa O;have am:t.kids.length=1:=by unfold b9 at J;simp at J;omega
 have a4:0<t.kids.length:=by omega
 have bH:(t.kids[0]'a4).size+1<=t.size:=by have e:=hz;rw[<-cP (l:=t.kids),am,eY t.kids 0 (by omega)]at e;simp[ax]at e;omega
 have v0:(0:Int)<(t.kids.length:Int):=by omega
 clear am;clear E rt O a2 ao he ak hz J a3;obtain⟨b,off,bz,bB,bv,bA,rfl,aB,Y⟩:=ed aO.out aL.out 0 (by omega);simp only[Kg,dz]at Y;have aQ:=aa aB;have ab:=aa Y;have a1:=aa (aM.out 0 (by omega));have aT:=aa (aN.out.b4 0 (by omega));clear aB Y;have G:=aa (PX.start p #[af ae 17,ah t.text,ag al t.leads.length aV,ag (some ⟨b,off,none⟩) t.kids.length ck] 26);clear p;obtain⟨⟨a8,a9,ba,bd⟩,-⟩:=G.out.has.four;have a5:=G.out.has.lt;go_in;have⟨d0,aX,aY,aZ⟩:=ab.out _ G.out.ps.I
 go_wp2_with(first
  |(go_at_call 173;refine(aJ.out t.kids[0] a1.out aT.out h B _ _ _ _ G.out.BZ (by omega) _ aQ.out).mono ?_;rintro e bL ⟨bJ,bI,bO,rfl,aG,bG⟩;replace G:=aa (G.out.call aG);have⟨⟨a8,a9,ba,bd⟩,_⟩:=G.out.has.four;have a5:=G.out.has.lt;have⟨d0,aX,aY,aZ⟩:=ab.out _ G.out.ps.I;clear aG))
 go_ret;exact⟨_,_,_,rfl,G.out.fin aS.out,by omega⟩
theorem I4(m:Nat)(E:eP m)(t:Tree)(a2:t.size<=m+1)(rt:RT t)(aN:t.kind=18)(h:Hp)(B:Nat)(w:World)(v:Value)(n:Nat)(xs:List Value)(p:bN h B w v n xs v w)(hn:n+9*t.size<=4000000)(tv:Value)(ao:aP h tv t):Calls ai 173 #[v,tv] w (e9 h B w v n t.size):=by
 have aT:=aa E;have aX:=aa rt;have aG:=aa rt.2;have ba:Sh1 t.text:=rt.1.text;have aY:=aa p;have hz:=Tree.size_eq t;have aV:Hid (∀i (aM:i<t.kids.length),t.kids[i].size<=m):=fun i aM=>by have:=dB (aK aM);omega
 obtain⟨al,aL,aJ,ck,ys,rfl,-,bm,bg,aZ,aQ,he⟩:=ao.open;have a9:=aa aQ;have a8:=aa he;have aO:=rt.1.leads;rw[aN]at aO ao⊢;have aB:=aa ao;have bq:ax (t.kids.take t.kids.length)+1<=t.size:=by rw[cP];omega
 clear E rt ao aZ aQ he aN hz aO a2;have G:=aa (PX.start p #[af ae 18,ah t.text,ag al t.leads.length aL,ag aJ t.kids.length ck] 26);clear p;obtain⟨⟨J,O,Y,ab⟩,-⟩:=G.out.has.four;have aj:=G.out.has.lt;go_in
 go_wp2_with(first
  |(go_at_call 198;refine(dn h _ G.out.ps.I _ t aB.out aG.out _ (by omega)).mono ?_;rintro e a4 ⟨⟨a3,rfl,a1⟩,ak⟩;replace G:=aa (G.out.below ak);have⟨⟨J,O,Y,ab⟩,_⟩:=G.out.has.four;have aj:=G.out.has.lt;clear ak)
  |(at_builtin;refine G.out.ky 1 ?_;intro bz a5 am;replace G:=aa am;have⟨⟨J,O,Y,ab⟩,_⟩:=G.out.has.four;have aj:=G.out.has.lt;clear am))
 replace G:=aa G.out.drew;have⟨⟨J,O,Y,ab⟩,_⟩:=G.out.has.four;have aj:=G.out.has.lt
 go_region_held3(fun w'=>w'.cell? ⟨w.heap.size,0,none⟩=some (af ae 18)/\w'.cell? ⟨w.heap.size,1,none⟩=some (ah t.text)/\w'.cell? ⟨w.heap.size,2,none⟩=some (ag al t.leads.length aL)/\w'.cell? ⟨w.heap.size,3,none⟩=some (ag aJ t.kids.length ck)) (first|(go_keep;done)|exact⟨J,O,Y,ab⟩) (first
  |(go_at_call 199;refine(Lt m aT.out t aV.out aX.out h B _ _ _ _ G.out.BZ _ aB.out t.kids.length (by omega) 2 (by omega) (by omega) (by omega)).mono ?_;rintro e bB ⟨bA,bv,bC,rfl,aS,bp⟩;replace G:=aa (G.out.call aS);have⟨⟨J,O,Y,ab⟩,_⟩:=G.out.has.four;have aj:=G.out.has.lt;clear aS)
  |(go_at_call 198;refine(dn h _ G.out.ps.I _ t aB.out aG.out _ (by omega)).mono ?_;rintro e a4 ⟨⟨a3,rfl,a1⟩,ak⟩;replace G:=aa (G.out.below ak);have⟨⟨J,O,Y,ab⟩,_⟩:=G.out.has.four;have aj:=G.out.has.lt;clear ak)
  |(refine G.out.fG 1 ?_;intro bd cg a5 am;replace G:=aa am;have⟨⟨J,O,Y,ab⟩,_⟩:=G.out.has.four;have aj:=G.out.has.lt;clear am))
 all_goals
  go_wp2_with fail;go_ret;exact⟨_,_,_,rfl,G.out.fin aY.out,by omega⟩
theorem I5(m:Nat)(E:eP m)(t:Tree)(cv:t.size<=m+1)(rt:RT t)(bd:t.kind=19)(h:Hp)(B:Nat)(w:World)(v:Value)(n:Nat)(xs:List Value)(p:bN h B w v n xs v w)(hn:n+9*t.size<=4000000)(tv:Value)(aV:aP h tv t):Calls ai 173 #[v,tv] w (e9 h B w v n t.size):=by
 have aX:=aa E;have a2:=aa rt;have a1:=aa rt.2;have cB:Sh1 t.text:=rt.1.text;have bL:=aa p;have hz:=Tree.size_eq t;have aZ:Hid (∀i (ba:i<t.kids.length),t.kids[i].size<=m):=fun i ba=>by have:=dB (aK ba);omega
 obtain⟨al,aS,cC,ck,ys,rfl,-,cE,cD,cu,bp,he⟩:=aV.open;have a3:=aa bp;have aY:=aa he;have aT:=rt.1.leads;rw[bd]at aT aV⊢;have a4:=aa aV;have bg:t.kids.length=3:=by unfold b9 at aT;simp at aT;omega
 have cw:0<t.kids.length:=by omega
 have cz:1<t.kids.length:=by omega
 have cA:2<t.kids.length:=by omega
 have cF:(t.kids[0]'cw).size+(t.kids[1]'cz).size+(t.kids[2]'cA).size+1<=t.size:=by have e:=hz;rw[<-cP (l:=t.kids),bg,eY t.kids 2 (by omega),eY t.kids 1 (by omega),eY t.kids 0 (by omega)]at e;simp[ax]at e;omega
 have v0:(0:Int)<(t.kids.length:Int):=by omega
 have cM:(1:Int)<(t.kids.length:Int):=by omega
 have cN:(2:Int)<(t.kids.length:Int):=by omega
 clear bg;clear E rt aV cu bp he bd hz aT cv;obtain⟨b,off,bY,cf,bT,cc,rfl,aJ,aB⟩:=ed a3.out aY.out 0 (by omega);simp only[Kg,dz]at aB;have bH:=aa aJ;have aN:=aa aB;have co:=aa (aZ.out 0 (by omega));have bO:=aa (a2.out.b4 0 (by omega));clear aJ aB;obtain⟨b1,cG,bZ,ch,bV,cd,a5,aJ,aB⟩:=ed a3.out aY.out 1 (by omega);simp only[aC,cx,and_true]at a5;obtain⟨cj,cl⟩:=a5;subst cj;subst cl;simp only[Nat.one_mul,bP,fM]at aB;have bI:=aa aJ;have aO:=aa aB;have cq:=aa (aZ.out 1 (by omega));have bR:=aa (a2.out.b4 1 (by omega));clear aJ aB;obtain⟨b2,cK,b0,ci,bX,ce,a8,aJ,aB⟩:=ed a3.out aY.out 2 (by omega);simp only[aC,cx,and_true]at a8;obtain⟨cm,cn⟩:=a8;subst cm;subst cn;simp only[Nat.reduceMul,bP,fM]at aB;have bJ:=aa aJ;have aQ:=aa aB;have ct:=aa (aZ.out 2 (by omega));have bS:=aa (a2.out.b4 2 (by omega));clear aJ aB;have G:=aa (PX.start p #[af ae 19,ah t.text,ag al t.leads.length aS,ag (some ⟨b,off,none⟩) t.kids.length ck] 26);clear p;obtain⟨⟨J,O,Y,ab⟩,-⟩:=G.out.has.four;have ao:=G.out.has.lt;go_in;go_wp2_with fail;replace G:=aa G.out.drew;have⟨⟨J,O,Y,ab⟩,_⟩:=G.out.has.four;have ao:=G.out.has.lt;have⟨d0,aj,ak,am⟩:=aN.out _ G.out.ps.I
 go_region_held3(fun w'=>w'.cell? ⟨w.heap.size,0,none⟩=some (af ae 19)/\w'.cell? ⟨w.heap.size,1,none⟩=some (ah t.text)/\w'.cell? ⟨w.heap.size,2,none⟩=some (ag al t.leads.length aS)/\w'.cell? ⟨w.heap.size,3,none⟩=some (ag (some ⟨b,off,none⟩) t.kids.length ck)/\w'.cell? ⟨b,off,none⟩=some (af ae t.kids[0].kind)/\w'.cell? ⟨b,off+1,none⟩=some (ah t.kids[0].text)/\w'.cell? ⟨b,off+2,none⟩=some (ag bY t.kids[0].leads.length cf)/\w'.cell? ⟨b,off+3,none⟩=some (ag bT t.kids[0].kids.length cc)) (first|(go_keep;done)|exact⟨J,O,Y,ab,d0,aj,ak,am⟩) (first
  |(go_at_call 198;refine(dn h _ G.out.ps.I _ t a4.out a1.out _ (by omega)).mono ?_;rintro e bB ⟨⟨bz,rfl,bq⟩,aG⟩;replace G:=aa (G.out.below aG);have⟨⟨J,O,Y,ab⟩,_⟩:=G.out.has.four;have ao:=G.out.has.lt;have⟨d0,aj,ak,am⟩:=aN.out _ G.out.ps.I;clear aG)
  |(refine G.out.fG 1 ?_;intro a9 cg bC aL;replace G:=aa aL;have⟨⟨J,O,Y,ab⟩,_⟩:=G.out.has.four;have ao:=G.out.has.lt;have⟨d0,aj,ak,am⟩:=aN.out _ G.out.ps.I;clear aL)
  |(go_at_call 173;refine(aX.out t.kids[0] co.out bO.out h B _ _ _ _ G.out.BZ (by omega) _ bH.out).mono ?_;rintro e bE ⟨bA,bv,bG,rfl,aM,bm⟩;replace G:=aa (G.out.call aM);have⟨⟨J,O,Y,ab⟩,_⟩:=G.out.has.four;have ao:=G.out.has.lt;have⟨d0,aj,ak,am⟩:=aN.out _ G.out.ps.I;clear aM))
 all_goals
  go_wp2_with fail;replace G:=aa G.out.drew;have⟨⟨J,O,Y,ab⟩,_⟩:=G.out.has.four;have ao:=G.out.has.lt;have⟨d0,aj,ak,am⟩:=aO.out _ G.out.ps.I
  go_region_held3(fun w'=>w'.cell? ⟨w.heap.size,0,none⟩=some (af ae 19)/\w'.cell? ⟨w.heap.size,1,none⟩=some (ah t.text)/\w'.cell? ⟨w.heap.size,2,none⟩=some (ag al t.leads.length aS)/\w'.cell? ⟨w.heap.size,3,none⟩=some (ag (some ⟨b,off,none⟩) t.kids.length ck)/\w'.cell? ⟨b,off+4,none⟩=some (af ae t.kids[1].kind)/\w'.cell? ⟨b,off+5,none⟩=some (ah t.kids[1].text)/\w'.cell? ⟨b,off+6,none⟩=some (ag bZ t.kids[1].leads.length ch)/\w'.cell? ⟨b,off+7,none⟩=some (ag bV t.kids[1].kids.length cd)) (first|(go_keep;done)|exact⟨J,O,Y,ab,d0,aj,ak,am⟩) (first
   |(go_at_call 198;refine(dn h _ G.out.ps.I _ t a4.out a1.out _ (by omega)).mono ?_;rintro e bB ⟨⟨bz,rfl,bq⟩,aG⟩;replace G:=aa (G.out.below aG);have⟨⟨J,O,Y,ab⟩,_⟩:=G.out.has.four;have ao:=G.out.has.lt;have⟨d0,aj,ak,am⟩:=aO.out _ G.out.ps.I;clear aG)
   |(refine G.out.fG 1 ?_;intro a9 cg bC aL;replace G:=aa aL;have⟨⟨J,O,Y,ab⟩,_⟩:=G.out.has.four;have ao:=G.out.has.lt;have⟨d0,aj,ak,am⟩:=aO.out _ G.out.ps.I;clear aL)
   |(go_at_call 173;refine(aX.out t.kids[1] cq.out bR.out h B _ _ _ _ G.out.BZ (by omega) _ bI.out).mono ?_;rintro e bE ⟨bA,bv,bG,rfl,aM,bm⟩;replace G:=aa (G.out.call aM);have⟨⟨J,O,Y,ab⟩,_⟩:=G.out.has.four;have ao:=G.out.has.lt;have⟨d0,aj,ak,am⟩:=aO.out _ G.out.ps.I;clear aM))
  all_goals
   go_wp2_with fail;replace G:=aa G.out.drew;have⟨⟨J,O,Y,ab⟩,_⟩:=G.out.has.four;have ao:=G.out.has.lt;have⟨d0,aj,ak,am⟩:=aQ.out _ G.out.ps.I
   go_region_held3(fun w'=>w'.cell? ⟨w.heap.size,0,none⟩=some (af ae 19)/\w'.cell? ⟨w.heap.size,1,none⟩=some (ah t.text)/\w'.cell? ⟨w.heap.size,2,none⟩=some (ag al t.leads.length aS)/\w'.cell? ⟨w.heap.size,3,none⟩=some (ag (some ⟨b,off,none⟩) t.kids.length ck)/\w'.cell? ⟨b,off+8,none⟩=some (af ae t.kids[2].kind)/\w'.cell? ⟨b,off+9,none⟩=some (ah t.kids[2].text)/\w'.cell? ⟨b,off+10,none⟩=some (ag b0 t.kids[2].leads.length ci)/\w'.cell? ⟨b,off+11,none⟩=some (ag bX t.kids[2].kids.length ce)) (first|(go_keep;done)|exact⟨J,O,Y,ab,d0,aj,ak,am⟩) (first
    |(go_at_call 198;refine(dn h _ G.out.ps.I _ t a4.out a1.out _ (by omega)).mono ?_;rintro e bB ⟨⟨bz,rfl,bq⟩,aG⟩;replace G:=aa (G.out.below aG);have⟨⟨J,O,Y,ab⟩,_⟩:=G.out.has.four;have ao:=G.out.has.lt;have⟨d0,aj,ak,am⟩:=aQ.out _ G.out.ps.I;clear aG)
    |(refine G.out.fG 1 ?_;intro a9 cg bC aL;replace G:=aa aL;have⟨⟨J,O,Y,ab⟩,_⟩:=G.out.has.four;have ao:=G.out.has.lt;have⟨d0,aj,ak,am⟩:=aQ.out _ G.out.ps.I;clear aL)
    |(go_at_call 173;refine(aX.out t.kids[2] ct.out bS.out h B _ _ _ _ G.out.BZ (by omega) _ bJ.out).mono ?_;rintro e bE ⟨bA,bv,bG,rfl,aM,bm⟩;replace G:=aa (G.out.call aM);have⟨⟨J,O,Y,ab⟩,_⟩:=G.out.has.four;have ao:=G.out.has.lt;have⟨d0,aj,ak,am⟩:=aQ.out _ G.out.ps.I;clear aM))
   all_goals
    go_wp2_with fail;go_ret;exact⟨_,_,_,rfl,G.out.fin bL.out,by omega⟩
end Go.Proofs.YtdplggpbgommnaaGreatDoor
