/- semvcsref02.pieces, by kinds. -/
import Derived.Test.YtdplggpbgommnaaGreatDoorG23
open Go.Addr.mk renaming injEq->cx
open Go.IntKind renaming i64->ae
open Go.Lib renaming hid->aa
open Go.Proofs.Tryz renaming prog->ai
open Go.Value renaming int->af,slice->ag,string->ah
open List renaming getElem_mem->aK,take_length->cP
open Nat renaming add_zero->dz,zero_mul->Kg
open Option.some renaming injEq->aC
set_option maxRecDepth 100000
set_option maxHeartbeats 4000000
namespace Go.Proofs.YtdplggpbgommnaaGreatDoor
open Go.RowKit
theorem IU(m:Nat)(E:eP m)(t:Tree)(bq:t.size<=m+1)(rt:RT t)(aS:t.kind=1)(h:Hp)(B:Nat)(w:World)(v:Value)(n:Nat)(xs:List Value)(p:bN h B w v n xs v w)(hn:n+9*t.size<=4000000)(tv:Value)(aG:aP h tv t):Calls ai 173 #[v,tv] w (e9 h B w v n t.size):=by
 have aZ:=aa E;have a3:=aa rt;have aN:=aa rt.2;have bH:Sh1 t.text:=rt.1.text;have a9:=aa p;have hz:=Tree.size_eq t;have a2:Hid (∀i (aQ:i<t.kids.length),t.kids[i].size<=m):=fun i aQ=>by have:=dB (aK aQ);omega
 obtain⟨al,aB,ao,ck,ys,rfl,-,bZ,bY,bm,aV,he⟩:=aG.open;have a4:=aa aV;have a1:=aa he;have aT:=rt.1.leads;rw[aS]at aT aG⊢;have aO:=aa aG;have b9:ax t.kids+1<=t.size:=by omega
 clear E rt aG bm aV he aS hz aT bq;have G:=aa (PX.start p #[af ae 1,ah t.text,ag al t.leads.length aB,ag ao t.kids.length ck] 26);clear p;obtain⟨⟨J,O,Y,ab⟩,-⟩:=G.out.has.four;have aj:=G.out.has.lt;go_in;go_wp2_with fail;replace G:=aa G.out.drew;have⟨⟨J,O,Y,ab⟩,_⟩:=G.out.has.four;have aj:=G.out.has.lt
 go_region_held3(fun w'=>w'.cell? ⟨w.heap.size,0,none⟩=some (af ae 1)/\w'.cell? ⟨w.heap.size,1,none⟩=some (ah t.text)/\w'.cell? ⟨w.heap.size,2,none⟩=some (ag al t.leads.length aB)/\w'.cell? ⟨w.heap.size,3,none⟩=some (ag ao t.kids.length ck)) (first|(go_keep;done)|exact⟨J,O,Y,ab⟩) (first
  |(go_at_call 198;refine(dn h _ G.out.ps.I _ t aO.out aN.out _ (by omega)).mono ?_;rintro e bB ⟨⟨bA,rfl,bp⟩,ak⟩;replace G:=aa (G.out.below ak);have⟨⟨J,O,Y,ab⟩,_⟩:=G.out.has.four;have aj:=G.out.has.lt;clear ak)
  |(refine G.out.fG 2 ?_;intro bV cg bC am;replace G:=aa am;have⟨⟨J,O,Y,ab⟩,_⟩:=G.out.has.four;have aj:=G.out.has.lt;clear am))
 all_goals
  go_wp2_with fail;go_loopw[0,6] (fun lv i wr=>∃(j n':Nat) (fF:List Value),j<=t.kids.length/\i=af ae j/\PX h B w.heap.size #[af ae 1,ah t.text,ag al t.leads.length aB,ag ao t.kids.length ck] (w.alloc (.cells #[af ae 1,ah t.text,ag al t.leads.length aB,ag ao t.kids.length ck] 26)) v n' fF lv wr/\n'<=n+2+9*ax (t.kids.take j)) (fun _ i _=>t.kids.length-(intOf i).toNat);case atStart=>exact⟨0,_,_,Nat.zero_le _,rfl,G.out,by omega⟩
  case round=>
   obtain⟨j,cc,cj,bX,rfl,aJ,bg⟩:=hrel;have G:=aa aJ;obtain⟨⟨J,O,Y,ab⟩,-⟩:=aJ.has.four;have aj:=aJ.has.lt;clear aJ;by_cases hj:j<t.kids.length
   ·obtain⟨b,off,bJ,bO,bI,bL,rfl,aX,aL⟩:=ed a4.out a1.out j hj;have a5:=aa aX;have bG:=aa aL;obtain⟨d0,bR,bS,bT⟩:=aL wr G.out.ps.I;have bd:=aa (a2.out j hj);have ba:=aa (a3.out.b4 j hj);have aM:=eY t.kids j hj;have bv:=jK t.kids (j+1);have a8:=aa aM;rw[aM]at bv;have cd:(0:Int)<=(j:Int):=by omega
    have ce:(j:Int)<(t.kids.length:Int):=by omega
    clear aX aL aM
    go_wp2_with(first
     |(go_at_call 173;refine(aZ.out t.kids[j] bd.out ba.out h B _ _ _ _ G.out.BZ (by omega) _ a5.out).mono ?_;rintro e ci ⟨ch,bz,bE,rfl,aY,b0⟩;replace G:=aa (G.out.call aY);have⟨⟨J,O,Y,ab⟩,_⟩:=G.out.has.four;have aj:=G.out.has.lt;clear aY))
    go_roundw;case rel=>exact⟨j+1,bz,bE,by omega,by go_num,G.out,by rw[a8.out];omega⟩
    case measure=>simp[intOf];omega
   ·obtain rfl:j=t.kids.length:=by omega
    rw[cP]at bg
    go_wp2_with(first
     |(go_at_call 198;refine(dn h _ G.out.ps.I _ t aO.out aN.out _ (by omega)).mono ?_;rintro e bB ⟨⟨bA,rfl,bp⟩,ak⟩;replace G:=aa (G.out.below ak);have⟨⟨J,O,Y,ab⟩,_⟩:=G.out.has.four;have aj:=G.out.has.lt;clear ak)
     |(at_builtin;refine G.out.ky 1 ?_;intro cf bC am;replace G:=aa am;have⟨⟨J,O,Y,ab⟩,_⟩:=G.out.has.four;have aj:=G.out.has.lt;clear am))
    go_ret;exact⟨_,_,_,rfl,G.out.fin a9.out,by omega⟩
theorem IV(m:Nat)(E:eP m)(t:Tree)(ch:t.size<=m+1)(rt:RT t)(ba:t.kind=2)(h:Hp)(B:Nat)(w:World)(v:Value)(n:Nat)(xs:List Value)(p:bN h B w v n xs v w)(hn:n+9*t.size<=4000000)(tv:Value)(aT:aP h tv t):Calls ai 173 #[v,tv] w (e9 h B w v n t.size):=by
 have aV:=aa E;have aZ:=aa rt;have aY:=aa rt.2;have ci:Sh1 t.text:=rt.1.text;have bL:=aa p;have hz:=Tree.size_eq t;have aX:Hid (∀i (a9:i<t.kids.length),t.kids[i].size<=m):=fun i a9=>by have:=dB (aK a9);omega
 obtain⟨al,aQ,cj,ck,ys,rfl,-,cz,cw,cf,bg,he⟩:=aT.open;have a3:=aa bg;have a2:=aa he;have aS:=rt.1.leads;rw[ba]at aS aT⊢;have aO:=aa aT;have h2:2<=t.kids.length:=by unfold b9 at aS;simp at aS;omega
 obtain⟨N,cc⟩:∃N,N+2=t.kids.length:=⟨t.kids.length-2,by omega⟩
 obtain⟨M,a8⟩:∃M,M+1=t.kids.length:=⟨t.kids.length-1,by omega⟩
 have bp:N<t.kids.length:=by omega
 have bq:M<t.kids.length:=by omega
 have cA:ax (t.kids.take N)+(t.kids[N]'bp).size+(t.kids[M]'bq).size+1<=t.size:=by
  have e:=hz;have ct:=eY t.kids N bp;have cu:=eY t.kids M bq;have cv:ax (t.kids.take (M+1))=ax t.kids:=by rw[a8,cP]
  have bY:M=N+1:=by omega
  subst bY;omega
 have v0:(0:Int)<=(N:Int):=by omega
 have cE:(N:Int)<(t.kids.length:Int):=by omega
 have cF:(0:Int)<=(M:Int):=by omega
 have cG:(M:Int)<(t.kids.length:Int):=by omega
 have cC:ae.wrap ((t.kids.length:Int)-2)=(N:Int):=by rw[bA (by omega)];omega
 have cD:ae.wrap ((t.kids.length:Int)-1)=(M:Int):=by rw[bA (by omega)];omega
 clear h2 cc a8;clear E rt aT cf bg he ba hz aS ch;obtain⟨b,off,bT,bX,bS,bV,rfl,aM,aL⟩:=ed a3.out a2.out N (by omega);have bI:=aa aM;have aN:=aa aL;have cd:=aa (aX.out N (by omega));have bO:=aa (aZ.out.b4 N (by omega));clear aM aL;obtain⟨cn,cB,cm,cq,cl,co,a4,aM,aL⟩:=ed a3.out a2.out M (by omega);simp only[aC,cx,and_true]at a4;obtain⟨bZ,b0⟩:=a4;subst bZ;subst b0;have bJ:=aa aM;have a1:=aa aL;have ce:=aa (aX.out M (by omega));have bR:=aa (aZ.out.b4 M (by omega));clear aM aL;have G:=aa (PX.start p #[af ae 2,ah t.text,ag al t.leads.length aQ,ag (some ⟨b,off,none⟩) t.kids.length ck] 26);clear p;obtain⟨⟨J,O,Y,ab⟩,-⟩:=G.out.has.four;have aj:=G.out.has.lt;go_in;go_wp2_with fail;replace G:=aa G.out.drew;have⟨⟨J,O,Y,ab⟩,_⟩:=G.out.has.four;have aj:=G.out.has.lt
 go_region_held3(fun w'=>w'.cell? ⟨w.heap.size,0,none⟩=some (af ae 2)/\w'.cell? ⟨w.heap.size,1,none⟩=some (ah t.text)/\w'.cell? ⟨w.heap.size,2,none⟩=some (ag al t.leads.length aQ)/\w'.cell? ⟨w.heap.size,3,none⟩=some (ag (some ⟨b,off,none⟩) t.kids.length ck)) (first|(go_keep;done)|exact⟨J,O,Y,ab⟩) (first
  |(go_at_call 198;refine(dn h _ G.out.ps.I _ t aO.out aY.out _ (by omega)).mono ?_;rintro e bC ⟨⟨bz,rfl,bm⟩,ak⟩;replace G:=aa (G.out.below ak);have⟨⟨J,O,Y,ab⟩,_⟩:=G.out.has.four;have aj:=G.out.has.lt;clear ak)
  |(refine G.out.fG 3 ?_;intro a5 cg bE am;replace G:=aa am;have⟨⟨J,O,Y,ab⟩,_⟩:=G.out.has.four;have aj:=G.out.has.lt;clear am))
 all_goals
  go_wp2_with(first
   |(go_at_call 199;refine(Lt m aV.out t aX.out aZ.out h B _ _ _ _ G.out.BZ _ aO.out N (by omega) 6 (by omega) (by omega) (by omega)).mono ?_;rintro e bG ⟨bB,bv,bH,rfl,ao,bd⟩;replace G:=aa (G.out.call ao);have⟨⟨J,O,Y,ab⟩,_⟩:=G.out.has.four;have aj:=G.out.has.lt;clear ao))
  replace G:=aa G.out.drew;have⟨⟨J,O,Y,ab⟩,_⟩:=G.out.has.four;have aj:=G.out.has.lt
  go_region_held3(fun w'=>w'.cell? ⟨w.heap.size,0,none⟩=some (af ae 2)/\w'.cell? ⟨w.heap.size,1,none⟩=some (ah t.text)/\w'.cell? ⟨w.heap.size,2,none⟩=some (ag al t.leads.length aQ)/\w'.cell? ⟨w.heap.size,3,none⟩=some (ag (some ⟨b,off,none⟩) t.kids.length ck)) (first|(go_keep;done)|exact⟨J,O,Y,ab⟩) (first
   |(go_at_call 198;refine(dn h _ G.out.ps.I _ t aO.out aY.out _ (by omega)).mono ?_;rintro e bC ⟨⟨bz,rfl,bm⟩,ak⟩;replace G:=aa (G.out.below ak);have⟨⟨J,O,Y,ab⟩,_⟩:=G.out.has.four;have aj:=G.out.has.lt;clear ak)
   |(refine G.out.fG 2 ?_;intro a5 cg bE am;replace G:=aa am;have⟨⟨J,O,Y,ab⟩,_⟩:=G.out.has.four;have aj:=G.out.has.lt;clear am))
  all_goals
   go_wp2_with fail;replace G:=aa G.out.drew;have⟨⟨J,O,Y,ab⟩,_⟩:=G.out.has.four;have aj:=G.out.has.lt;have⟨d0,aB,aG,aJ⟩:=aN.out _ G.out.ps.I
   go_region_held3(fun w'=>w'.cell? ⟨w.heap.size,0,none⟩=some (af ae 2)/\w'.cell? ⟨w.heap.size,1,none⟩=some (ah t.text)/\w'.cell? ⟨w.heap.size,2,none⟩=some (ag al t.leads.length aQ)/\w'.cell? ⟨w.heap.size,3,none⟩=some (ag (some ⟨b,off,none⟩) t.kids.length ck)/\w'.cell? ⟨b,off+N*4,none⟩=some (af ae t.kids[N].kind)/\w'.cell? ⟨b,off+N*4+1,none⟩=some (ah t.kids[N].text)/\w'.cell? ⟨b,off+N*4+2,none⟩=some (ag bT t.kids[N].leads.length bX)/\w'.cell? ⟨b,off+N*4+3,none⟩=some (ag bS t.kids[N].kids.length bV)) (first|(go_keep;done)|exact⟨J,O,Y,ab,d0,aB,aG,aJ⟩) (first
    |(go_at_call 173;refine(aV.out t.kids[N] cd.out bO.out h B _ _ _ _ G.out.BZ (by omega) _ bI.out).mono ?_;rintro e bG ⟨bB,bv,bH,rfl,ao,bd⟩;replace G:=aa (G.out.call ao);have⟨⟨J,O,Y,ab⟩,_⟩:=G.out.has.four;have aj:=G.out.has.lt;have⟨d0,aB,aG,aJ⟩:=aN.out _ G.out.ps.I;clear ao)
    |(go_at_call 198;refine(dn h _ G.out.ps.I _ t aO.out aY.out _ (by omega)).mono ?_;rintro e bC ⟨⟨bz,rfl,bm⟩,ak⟩;replace G:=aa (G.out.below ak);have⟨⟨J,O,Y,ab⟩,_⟩:=G.out.has.four;have aj:=G.out.has.lt;have⟨d0,aB,aG,aJ⟩:=aN.out _ G.out.ps.I;clear ak)
    |(refine G.out.fG 1 ?_;intro a5 cg bE am;replace G:=aa am;have⟨⟨J,O,Y,ab⟩,_⟩:=G.out.has.four;have aj:=G.out.has.lt;have⟨d0,aB,aG,aJ⟩:=aN.out _ G.out.ps.I;clear am))
   all_goals
    have⟨d0,aB,aG,aJ⟩:=a1.out _ G.out.ps.I
    go_wp2_with(first
     |(go_at_call 173;refine(aV.out t.kids[M] ce.out bR.out h B _ _ _ _ G.out.BZ (by omega) _ bJ.out).mono ?_;rintro e bG ⟨bB,bv,bH,rfl,ao,bd⟩;replace G:=aa (G.out.call ao);have⟨⟨J,O,Y,ab⟩,_⟩:=G.out.has.four;have aj:=G.out.has.lt;have⟨d0,aB,aG,aJ⟩:=a1.out _ G.out.ps.I;clear ao))
    go_ret;exact⟨_,_,_,rfl,G.out.fin bL.out,by omega⟩
theorem IW(m:Nat)(E:eP m)(t:Tree)(bp:t.size<=m+1)(rt:RT t)(aM:t.kind=3)(h:Hp)(B:Nat)(w:World)(v:Value)(n:Nat)(xs:List Value)(p:bN h B w v n xs v w)(hn:n+9*t.size<=4000000)(tv:Value)(ak:aP h tv t):Calls ai 173 #[v,tv] w (e9 h B w v n t.size):=by
 have aV:=aa E;have a1:=aa rt;have aZ:=aa rt.2;have bv:Sh1 t.text:=rt.1.text;have a5:=aa p;have hz:=Tree.size_eq t;have aY:Hid (∀i (aL:i<t.kids.length),t.kids[i].size<=m):=fun i aL=>by have:=dB (aK aL);omega
 obtain⟨al,aJ,bz,ck,ys,rfl,-,bI,bH,bm,aO,he⟩:=ak.open;have a2:=aa aO;have aX:=aa he;have aj:=rt.1.leads;rw[aM]at aj ak⊢;have a3:=aa ak;have aN:t.kids.length=1:=by unfold b9 at aj;simp at aj;omega
 have bq:0<t.kids.length:=by omega
 have bL:(t.kids[0]'bq).size+1<=t.size:=by have e:=hz;rw[<-cP (l:=t.kids),aN,eY t.kids 0 (by omega)]at e;simp[ax]at e;omega
 have v0:(0:Int)<(t.kids.length:Int):=by omega
 clear aN;clear E rt ak bm aO he aM hz aj bp;obtain⟨b,off,bB,bE,bA,bC,rfl,aQ,ao⟩:=ed a2.out aX.out 0 (by omega);simp only[Kg,dz]at ao;have a4:=aa aQ;have aB:=aa ao;have bg:=aa (aY.out 0 (by omega));have a8:=aa (a1.out.b4 0 (by omega));clear aQ ao;have G:=aa (PX.start p #[af ae 3,ah t.text,ag al t.leads.length aJ,ag (some ⟨b,off,none⟩) t.kids.length ck] 26);clear p;obtain⟨⟨J,O,Y,ab⟩,-⟩:=G.out.has.four;have am:=G.out.has.lt;go_in;go_wp2_with fail;replace G:=aa G.out.drew;have⟨⟨J,O,Y,ab⟩,_⟩:=G.out.has.four;have am:=G.out.has.lt
 go_region_held3(fun w'=>w'.cell? ⟨w.heap.size,0,none⟩=some (af ae 3)/\w'.cell? ⟨w.heap.size,1,none⟩=some (ah t.text)/\w'.cell? ⟨w.heap.size,2,none⟩=some (ag al t.leads.length aJ)/\w'.cell? ⟨w.heap.size,3,none⟩=some (ag (some ⟨b,off,none⟩) t.kids.length ck)) (first|(go_keep;done)|exact⟨J,O,Y,ab⟩) (first
  |(go_at_call 198;refine(dn h _ G.out.ps.I _ t a3.out aZ.out _ (by omega)).mono ?_;rintro e bV ⟨⟨bS,rfl,bO⟩,aG⟩;replace G:=aa (G.out.below aG);have⟨⟨J,O,Y,ab⟩,_⟩:=G.out.has.four;have am:=G.out.has.lt;clear aG)
  |(refine G.out.fG 3 ?_;intro bG cg bX aS;replace G:=aa aS;have⟨⟨J,O,Y,ab⟩,_⟩:=G.out.has.four;have am:=G.out.has.lt;clear aS))
 all_goals
  have⟨d0,a9,ba,bd⟩:=aB.out _ G.out.ps.I
  go_wp2_with(first
   |(go_at_call 173;refine(aV.out t.kids[0] bg.out a8.out h B _ _ _ _ G.out.BZ (by omega) _ a4.out).mono ?_;rintro e bY ⟨bT,bR,bZ,rfl,aT,bJ⟩;replace G:=aa (G.out.call aT);have⟨⟨J,O,Y,ab⟩,_⟩:=G.out.has.four;have am:=G.out.has.lt;have⟨d0,a9,ba,bd⟩:=aB.out _ G.out.ps.I;clear aT))
  go_ret;exact⟨_,_,_,rfl,G.out.fin a5.out,by omega⟩
theorem IX(m:Nat)(E:eP m)(t:Tree)(bp:t.size<=m+1)(rt:RT t)(aM:t.kind=4)(h:Hp)(B:Nat)(w:World)(v:Value)(n:Nat)(xs:List Value)(p:bN h B w v n xs v w)(hn:n+9*t.size<=4000000)(tv:Value)(ak:aP h tv t):Calls ai 173 #[v,tv] w (e9 h B w v n t.size):=by
 have aV:=aa E;have a1:=aa rt;have aZ:=aa rt.2;have bv:Sh1 t.text:=rt.1.text;have a5:=aa p;have hz:=Tree.size_eq t;have aY:Hid (∀i (aL:i<t.kids.length),t.kids[i].size<=m):=fun i aL=>by have:=dB (aK aL);omega
 obtain⟨al,aJ,bz,ck,ys,rfl,-,bI,bH,bm,aO,he⟩:=ak.open;have a2:=aa aO;have aX:=aa he;have aj:=rt.1.leads;rw[aM]at aj ak⊢;have a3:=aa ak;have aN:t.kids.length=1:=by unfold b9 at aj;simp at aj;omega
 have bq:0<t.kids.length:=by omega
 have bL:(t.kids[0]'bq).size+1<=t.size:=by have e:=hz;rw[<-cP (l:=t.kids),aN,eY t.kids 0 (by omega)]at e;simp[ax]at e;omega
 have v0:(0:Int)<(t.kids.length:Int):=by omega
 clear aN;clear E rt ak bm aO he aM hz aj bp;obtain⟨b,off,bB,bE,bA,bC,rfl,aQ,ao⟩:=ed a2.out aX.out 0 (by omega);simp only[Kg,dz]at ao;have a4:=aa aQ;have aB:=aa ao;have bg:=aa (aY.out 0 (by omega));have a8:=aa (a1.out.b4 0 (by omega));clear aQ ao;have G:=aa (PX.start p #[af ae 4,ah t.text,ag al t.leads.length aJ,ag (some ⟨b,off,none⟩) t.kids.length ck] 26);clear p;obtain⟨⟨J,O,Y,ab⟩,-⟩:=G.out.has.four;have am:=G.out.has.lt;go_in;go_wp2_with fail;replace G:=aa G.out.drew;have⟨⟨J,O,Y,ab⟩,_⟩:=G.out.has.four;have am:=G.out.has.lt
 go_region_held3(fun w'=>w'.cell? ⟨w.heap.size,0,none⟩=some (af ae 4)/\w'.cell? ⟨w.heap.size,1,none⟩=some (ah t.text)/\w'.cell? ⟨w.heap.size,2,none⟩=some (ag al t.leads.length aJ)/\w'.cell? ⟨w.heap.size,3,none⟩=some (ag (some ⟨b,off,none⟩) t.kids.length ck)) (first|(go_keep;done)|exact⟨J,O,Y,ab⟩) (first
  |(go_at_call 198;refine(dn h _ G.out.ps.I _ t a3.out aZ.out _ (by omega)).mono ?_;rintro e bV ⟨⟨bS,rfl,bO⟩,aG⟩;replace G:=aa (G.out.below aG);have⟨⟨J,O,Y,ab⟩,_⟩:=G.out.has.four;have am:=G.out.has.lt;clear aG)
  |(refine G.out.fG 2 ?_;intro bG cg bX aS;replace G:=aa aS;have⟨⟨J,O,Y,ab⟩,_⟩:=G.out.has.four;have am:=G.out.has.lt;clear aS))
 all_goals
  have⟨d0,a9,ba,bd⟩:=aB.out _ G.out.ps.I
  go_wp2_with(first
   |(go_at_call 173;refine(aV.out t.kids[0] bg.out a8.out h B _ _ _ _ G.out.BZ (by omega) _ a4.out).mono ?_;rintro e bY ⟨bT,bR,bZ,rfl,aT,bJ⟩;replace G:=aa (G.out.call aT);have⟨⟨J,O,Y,ab⟩,_⟩:=G.out.has.four;have am:=G.out.has.lt;have⟨d0,a9,ba,bd⟩:=aB.out _ G.out.ps.I;clear aT))
  go_ret;exact⟨_,_,_,rfl,G.out.fin a5.out,by omega⟩
end Go.Proofs.YtdplggpbgommnaaGreatDoor
