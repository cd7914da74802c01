/- semvcsref02.pieces, by kinds. -/
import Derived.Test.YtdplggpbgommnaaGreatDoorG25
open Go.Addr.mk renaming injEq→cx
open Go.IntKind renaming i64→ae
open Go.Lib renaming hid→aa
open Go.Proofs.Tryz renaming func173→fN,ntmps173→fO,prog→ai
open Go.Value renaming int→af,slice→ag,string→ah
open List renaming getElem_mem→aK,take_length→cP
open Nat renaming add_assoc→bP,add_zero→dz,reduceAdd→fM,zero_mul→gn
open Option.some renaming injEq→aC
set_option maxRecDepth 100000
set_option maxHeartbeats 4000000
namespace Go.Proofs.YtdplggpbgommnaaGreatDoor
open Go.RowKit
theorem I1(m:Nat)(aN:eP m)(t:Tree)(bE:t.size≤m+1)(aj:RT t)(aY:t.kind=8)(h:Hp)(B:Nat)(w:World)(v:Value)(n:Nat)(xs:List Value)(p:bN h B w v n xs v w)(bV:n+9*t.size≤4000000)(tv:Value)(aL:aP h tv t):Calls ai 173 #[v,tv] w (e9 h B w v n t.size):=by
 have a4:=aa aN;have a9:=aa aj;have aO:=aa aj.2;have bL:Sh1 t.text:=aj.1.text;have bg:=aa p;have hz:=Tree.size_eq t;have a8:Hid (∀i (aX:i<t.kids.length),t.kids[i].size≤m):=fun i aX=>by have:=dB (aK aX);omega
 obtain⟨aS,aT,bO,ck,cf,rfl,-,bT,bS,bB,a1,aV⟩:=aL.open;have ba:=aa a1;have a5:=aa aV;have aJ:=aj.1.leads;rw[aY]at aJ aL⊢;have aQ:=aa aL;have aZ:t.kids.length=1:=by unfold b9 at aJ;simp at aJ;omega
 have bG:0<t.kids.length:=by omega
 have bY:(t.kids[0]'bG).size+1≤t.size:=by have e:=hz;rw[←cP (l:=t.kids),aZ,eY t.kids 0 (by omega)]at e;simp[ax]at e;omega
 have v0:(0:Int)<(t.kids.length:Int):=by omega
 clear aZ;clear aN aj aL bB a1 aV aY hz aJ bE;obtain⟨b,ab,bq,bz,bp,bv,rfl,a2,aM⟩:=ed ba.out a5.out 0 (by omega);simp only[gn,dz]at aM;have bd:=aa a2;have ak:=aa aM;have bA:=aa (a8.out 0 (by omega));have bm:=aa (a9.out.b4 0 (by omega));clear a2 aM;have A:=aa (PX.start p #[af ae 8,ah t.text,ag aS t.leads.length aT,ag (some ⟨b,ab,none⟩) t.kids.length ck] 26);clear p;obtain⟨⟨E,G,M,O⟩,-⟩:=A.out.has.four;have Y:=A.out.has.lt;go_enter fN,fO
 go_wp2_with(first
  |(go_at_call 198;refine(dn h _ A.out.ps.I _ t aQ.out aO.out _ (by omega)).mono ?_;rintro e bI ⟨⟨bH,rfl,bC⟩,ac⟩;replace A:=aa (A.out.below ac);have⟨⟨E,G,M,O⟩,_⟩:=A.out.has.four;have Y:=A.out.has.lt;clear ac)
  |(at_builtin;refine A.out.ky 1 ?_;intro b0 bJ ad;replace A:=aa ad;have⟨⟨E,G,M,O⟩,_⟩:=A.out.has.four;have Y:=A.out.has.lt;clear ad))
 replace A:=aa A.out.drew;have⟨⟨E,G,M,O⟩,_⟩:=A.out.has.four;have Y:=A.out.has.lt;have⟨am,ao,aB,aG⟩:=ak.out _ A.out.ps.I
 go_region_held3(fun w'=>w'.cell? ⟨w.heap.size,0,none⟩=some (af ae 8)∧w'.cell? ⟨w.heap.size,1,none⟩=some (ah t.text)∧w'.cell? ⟨w.heap.size,2,none⟩=some (ag aS t.leads.length aT)∧w'.cell? ⟨w.heap.size,3,none⟩=some (ag (some ⟨b,ab,none⟩) t.kids.length ck)∧w'.cell? ⟨b,ab,none⟩=some (af ae t.kids[0].kind)∧w'.cell? ⟨b,ab+1,none⟩=some (ah t.kids[0].text)∧w'.cell? ⟨b,ab+2,none⟩=some (ag bq t.kids[0].leads.length bz)∧w'.cell? ⟨b,ab+3,none⟩=some (ag bp t.kids[0].kids.length bv)) (first|(go_keep;done)|exact⟨E,G,M,O,am,ao,aB,aG⟩) (first
  |(go_at_call 173;refine(a4.out t.kids[0] bA.out bm.out h B _ _ _ _ A.out.ga (by omega) _ bd.out).mono ?_;rintro e cd ⟨cc,bZ,ce,rfl,a3,bX⟩;replace A:=aa (A.out.call a3);have⟨⟨E,G,M,O⟩,_⟩:=A.out.has.four;have Y:=A.out.has.lt;have⟨am,ao,aB,aG⟩:=ak.out _ A.out.ps.I;clear a3)
  |(go_at_call 198;refine(dn h _ A.out.ps.I _ t aQ.out aO.out _ (by omega)).mono ?_;rintro e bI ⟨⟨bH,rfl,bC⟩,ac⟩;replace A:=aa (A.out.below ac);have⟨⟨E,G,M,O⟩,_⟩:=A.out.has.four;have Y:=A.out.has.lt;have⟨am,ao,aB,aG⟩:=ak.out _ A.out.ps.I;clear ac)
  |(refine A.out.fG 1 ?_;intro bR cg bJ ad;replace A:=aa ad;have⟨⟨E,G,M,O⟩,_⟩:=A.out.has.four;have Y:=A.out.has.lt;have⟨am,ao,aB,aG⟩:=ak.out _ A.out.ps.I;clear ad))
 all_goals
  go_wp2_with fail;go_ret;exact⟨_,_,_,rfl,A.out.fin bg.out,by omega⟩
theorem I2(m:Nat)(aG:eP m)(t:Tree)(a3:t.size≤m+1)(ad:RT t)(aN:t.kind=16)(h:Hp)(B:Nat)(w:World)(v:Value)(n:Nat)(xs:List Value)(p:bN h B w v n xs v w)(bp:n+9*t.size≤4000000)(tv:Value)(aj:aP h tv t):Calls ai 173 #[v,tv] w (e9 h B w v n t.size):=by
 have aT:=aa aG;have aX:=aa ad;have aJ:=aa ad.2;have bd:Sh1 t.text:=ad.1.text;have aY:=aa p;have hz:=Tree.size_eq t;have aV:Hid (∀i (aM:i<t.kids.length),t.kids[i].size≤m):=fun i aM=>by have:=dB (aK aM);omega
 obtain⟨ao,aB,am,ck,bE,rfl,-,bm,bg,a1,aQ,aL⟩:=aj.open;have ba:=aa aQ;have a9:=aa aL;have aO:=ad.1.leads;rw[aN]at aO aj⊢;have ak:=aa aj;have bv:ax (t.kids.take t.kids.length)+1≤t.size:=by rw[cP];omega
 clear aG ad aj a1 aQ aL aN hz aO a3;have A:=aa (PX.start p #[af ae 16,ah t.text,ag ao t.leads.length aB,ag am t.kids.length ck] 26);clear p;obtain⟨⟨E,G,M,O⟩,-⟩:=A.out.has.four;have Y:=A.out.has.lt;go_enter fN,fO;go_wp2_with fail;replace A:=aa A.out.drew;have⟨⟨E,G,M,O⟩,_⟩:=A.out.has.four;have Y:=A.out.has.lt
 go_region_held3(fun w'=>w'.cell? ⟨w.heap.size,0,none⟩=some (af ae 16)∧w'.cell? ⟨w.heap.size,1,none⟩=some (ah t.text)∧w'.cell? ⟨w.heap.size,2,none⟩=some (ag ao t.leads.length aB)∧w'.cell? ⟨w.heap.size,3,none⟩=some (ag am t.kids.length ck)) (first|(go_keep;done)|exact⟨E,G,M,O⟩) (first
  |(go_at_call 198;refine(dn h _ A.out.ps.I _ t ak.out aJ.out _ (by omega)).mono ?_;rintro e a5 ⟨⟨a4,rfl,a2⟩,ab⟩;replace A:=aa (A.out.below ab);have⟨⟨E,G,M,O⟩,_⟩:=A.out.has.four;have Y:=A.out.has.lt;clear ab)
  |(refine A.out.fG 2 ?_;intro aZ cg a8 ac;replace A:=aa ac;have⟨⟨E,G,M,O⟩,_⟩:=A.out.has.four;have Y:=A.out.has.lt;clear ac))
 all_goals
  go_wp2_with fail;replace A:=aa A.out.drew;have⟨⟨E,G,M,O⟩,_⟩:=A.out.has.four;have Y:=A.out.has.lt
  go_region_held3(fun w'=>w'.cell? ⟨w.heap.size,0,none⟩=some (af ae 16)∧w'.cell? ⟨w.heap.size,1,none⟩=some (ah t.text)∧w'.cell? ⟨w.heap.size,2,none⟩=some (ag ao t.leads.length aB)∧w'.cell? ⟨w.heap.size,3,none⟩=some (ag am t.kids.length ck)) (first|(go_keep;done)|exact⟨E,G,M,O⟩) (first
   |(go_at_call 199;refine(vm m aT.out t aV.out aX.out h B _ _ _ _ A.out.ga _ ak.out t.kids.length (by omega) 3 (by omega) (by omega) (by omega)).mono ?_;rintro e bB ⟨bA,bz,bC,rfl,aS,bq⟩;replace A:=aa (A.out.call aS);have⟨⟨E,G,M,O⟩,_⟩:=A.out.has.four;have Y:=A.out.has.lt;clear aS)
   |(go_at_call 198;refine(dn h _ A.out.ps.I _ t ak.out aJ.out _ (by omega)).mono ?_;rintro e a5 ⟨⟨a4,rfl,a2⟩,ab⟩;replace A:=aa (A.out.below ab);have⟨⟨E,G,M,O⟩,_⟩:=A.out.has.four;have Y:=A.out.has.lt;clear ab)
   |(refine A.out.fG 1 ?_;intro aZ cg a8 ac;replace A:=aa ac;have⟨⟨E,G,M,O⟩,_⟩:=A.out.has.four;have Y:=A.out.has.lt;clear ac))
  all_goals
   go_wp2_with fail;go_ret;exact⟨_,_,_,rfl,A.out.fin aY.out,by omega⟩
theorem I3(m:Nat)(Y:eP m)(t:Tree)(a4:t.size≤m+1)(E:RT t)(aj:t.kind=17)(h:Hp)(B:Nat)(w:World)(v:Value)(n:Nat)(xs:List Value)(p:bN h B w v n xs v w)(bI:n+9*t.size≤4000000)(tv:Value)(M:aP h tv t):Calls ai 173 #[v,tv] w (e9 h B w v n t.size):=by
 have aG:=aa Y;have aM:=aa E;have bp:=aa E.2;have bv:Sh1 t.text:=E.1.text;have aQ:=aa p;have hz:=Tree.size_eq t;have aL:Hid (∀i (ad:i<t.kids.length),t.kids[i].size≤m):=fun i ad=>by have:=dB (aK ad);omega
 obtain⟨aT,aV,bz,ck,bV,rfl,-,bH,bG,a3,am,ac⟩:=M.open;have aN:=aa am;have aJ:=aa ac;have G:=E.1.leads;rw[aj]at G M⊢;have bq:=aa M;have ak:t.kids.length=1:=by unfold b9 at G;simp at G;omega
 have a5:0<t.kids.length:=by omega
 have bL:(t.kids[0]'a5).size+1≤t.size:=by have e:=hz;rw[←cP (l:=t.kids),ak,eY t.kids 0 (by omega)]at e;simp[ax]at e;omega
 have v0:(0:Int)<(t.kids.length:Int):=by omega
 clear ak;clear Y E M a3 am ac aj hz G a4;obtain⟨b,a9,bB,bE,bA,bC,rfl,ao,O⟩:=ed aN.out aJ.out 0 (by omega);simp only[gn,dz]at O;have aO:=aa ao;have ab:=aa O;have a2:=aa (aL.out 0 (by omega));have aS:=aa (aM.out.b4 0 (by omega));clear ao O;have A:=aa (PX.start p #[af ae 17,ah t.text,ag aT t.leads.length aV,ag (some ⟨b,a9,none⟩) t.kids.length ck] 26);clear p;obtain⟨⟨ba,bd,bg,bm⟩,-⟩:=A.out.has.four;have a8:=A.out.has.lt;go_enter fN,fO;have⟨aX,aY,aZ,a1⟩:=ab.out _ A.out.ps.I
 go_wp2_with(first
  |(go_at_call 173;refine(aG.out t.kids[0] a2.out aS.out h B _ _ _ _ A.out.ga (by omega) _ aO.out).mono ?_;rintro e bS ⟨bR,bO,bT,rfl,aB,bJ⟩;replace A:=aa (A.out.call aB);have⟨⟨ba,bd,bg,bm⟩,_⟩:=A.out.has.four;have a8:=A.out.has.lt;have⟨aX,aY,aZ,a1⟩:=ab.out _ A.out.ps.I;clear aB))
 go_ret;exact⟨_,_,_,rfl,A.out.fin aQ.out,by omega⟩
theorem I4(m:Nat)(am:eP m)(t:Tree)(a2:t.size≤m+1)(ad:RT t)(aN:t.kind=18)(h:Hp)(B:Nat)(w:World)(v:Value)(n:Nat)(xs:List Value)(p:bN h B w v n xs v w)(bp:n+9*t.size≤4000000)(tv:Value)(aj:aP h tv t):Calls ai 173 #[v,tv] w (e9 h B w v n t.size):=by
 have aT:=aa am;have aX:=aa ad;have ao:=aa ad.2;have ba:Sh1 t.text:=ad.1.text;have aY:=aa p;have hz:=Tree.size_eq t;have aV:Hid (∀i (aM:i<t.kids.length),t.kids[i].size≤m):=fun i aM=>by have:=dB (aK aM);omega
 obtain⟨aG,aJ,aB,ck,bG,rfl,-,bm,bg,aZ,aQ,aL⟩:=aj.open;have a9:=aa aQ;have a8:=aa aL;have aO:=ad.1.leads;rw[aN]at aO aj⊢;have ak:=aa aj;have bv:ax (t.kids.take t.kids.length)+1≤t.size:=by rw[cP];omega
 clear am ad aj aZ aQ aL aN hz aO a2;have A:=aa (PX.start p #[af ae 18,ah t.text,ag aG t.leads.length aJ,ag aB t.kids.length ck] 26);clear p;obtain⟨⟨E,G,M,O⟩,-⟩:=A.out.has.four;have Y:=A.out.has.lt;go_enter fN,fO
 go_wp2_with(first
  |(go_at_call 198;refine(dn h _ A.out.ps.I _ t ak.out ao.out _ (by omega)).mono ?_;rintro e a4 ⟨⟨a3,rfl,a1⟩,ab⟩;replace A:=aa (A.out.below ab);have⟨⟨E,G,M,O⟩,_⟩:=A.out.has.four;have Y:=A.out.has.lt;clear ab)
  |(at_builtin;refine A.out.ky 1 ?_;intro bA a5 ac;replace A:=aa ac;have⟨⟨E,G,M,O⟩,_⟩:=A.out.has.four;have Y:=A.out.has.lt;clear ac))
 replace A:=aa A.out.drew;have⟨⟨E,G,M,O⟩,_⟩:=A.out.has.four;have Y:=A.out.has.lt
 go_region_held3(fun w'=>w'.cell? ⟨w.heap.size,0,none⟩=some (af ae 18)∧w'.cell? ⟨w.heap.size,1,none⟩=some (ah t.text)∧w'.cell? ⟨w.heap.size,2,none⟩=some (ag aG t.leads.length aJ)∧w'.cell? ⟨w.heap.size,3,none⟩=some (ag aB t.kids.length ck)) (first|(go_keep;done)|exact⟨E,G,M,O⟩) (first
  |(go_at_call 199;refine(vm m aT.out t aV.out aX.out h B _ _ _ _ A.out.ga _ ak.out t.kids.length (by omega) 2 (by omega) (by omega) (by omega)).mono ?_;rintro e bC ⟨bB,bz,bE,rfl,aS,bq⟩;replace A:=aa (A.out.call aS);have⟨⟨E,G,M,O⟩,_⟩:=A.out.has.four;have Y:=A.out.has.lt;clear aS)
  |(go_at_call 198;refine(dn h _ A.out.ps.I _ t ak.out ao.out _ (by omega)).mono ?_;rintro e a4 ⟨⟨a3,rfl,a1⟩,ab⟩;replace A:=aa (A.out.below ab);have⟨⟨E,G,M,O⟩,_⟩:=A.out.has.four;have Y:=A.out.has.lt;clear ab)
  |(refine A.out.fG 1 ?_;intro bd cg a5 ac;replace A:=aa ac;have⟨⟨E,G,M,O⟩,_⟩:=A.out.has.four;have Y:=A.out.has.lt;clear ac))
 all_goals
  go_wp2_with fail;go_ret;exact⟨_,_,_,rfl,A.out.fin aY.out,by omega⟩
theorem I5(m:Nat)(a5:eP m)(t:Tree)(cz:t.size≤m+1)(aL:RT t)(bm:t.kind=19)(h:Hp)(B:Nat)(w:World)(v:Value)(n:Nat)(xs:List Value)(p:bN h B w v n xs v w)(cK:n+9*t.size≤4000000)(tv:Value)(aV:aP h tv t):Calls ai 173 #[v,tv] w (e9 h B w v n t.size):=by
 have aX:=aa a5;have a2:=aa aL;have a1:=aa aL.2;have cD:Sh1 t.text:=aL.1.text;have bR:=aa p;have hz:=Tree.size_eq t;have aZ:Hid (∀i (bg:i<t.kids.length),t.kids[i].size≤m):=fun i bg=>by have:=dB (aK bg);omega
 obtain⟨aQ,aS,cE,ck,cV,rfl,-,cG,cF,cw,bv,bd⟩:=aV.open;have a3:=aa bv;have aY:=aa bd;have aT:=aL.1.leads;rw[bm]at aT aV⊢;have a4:=aa aV;have bp:t.kids.length=3:=by unfold b9 at aT;simp at aT;omega
 have cA:0<t.kids.length:=by omega
 have cB:1<t.kids.length:=by omega
 have cC:2<t.kids.length:=by omega
 have cM:(t.kids[0]'cA).size+(t.kids[1]'cB).size+(t.kids[2]'cC).size+1≤t.size:=by have e:=hz;rw[←cP (l:=t.kids),bp,eY t.kids 2 (by omega),eY t.kids 1 (by omega),eY t.kids 0 (by omega)]at e;simp[ax]at e;omega
 have v0:(0:Int)<(t.kids.length:Int):=by omega
 have cS:(1:Int)<(t.kids.length:Int):=by omega
 have cU:(2:Int)<(t.kids.length:Int):=by omega
 clear bp;clear a5 aL aV cw bv bd bm hz aT cz;obtain⟨b,E,b0,ci,bX,ce,rfl,aB,am⟩:=ed a3.out aY.out 0 (by omega);simp only[gn,dz]at am;have bJ:=aa aB;have aM:=aa am;have ct:=aa (aZ.out 0 (by omega));have bS:=aa (a2.out.b4 0 (by omega));clear aB am;obtain⟨b1,cN,cc,cj,bY,cf,a8,aB,am⟩:=ed a3.out aY.out 1 (by omega);simp only[aC,cx,and_true]at a8;obtain⟨cm,cn⟩:=a8;subst cm;subst cn;simp only[Nat.one_mul,bP,fM]at am;have bL:=aa aB;have aN:=aa am;have cu:=aa (aZ.out 1 (by omega));have bT:=aa (a2.out.b4 1 (by omega));clear aB am;obtain⟨b2,cQ,cd,cl,bZ,ch,a9,aB,am⟩:=ed a3.out aY.out 2 (by omega);simp only[aC,cx,and_true]at a9;obtain⟨co,cq⟩:=a9;subst co;subst cq;simp only[Nat.reduceMul,bP,fM]at am;have bO:=aa aB;have aO:=aa am;have cv:=aa (aZ.out 2 (by omega));have bV:=aa (a2.out.b4 2 (by omega));clear aB am;have A:=aa (PX.start p #[af ae 19,ah t.text,ag aQ t.leads.length aS,ag (some ⟨b,E,none⟩) t.kids.length ck] 26);clear p;obtain⟨⟨G,M,O,Y⟩,-⟩:=A.out.has.four;have ak:=A.out.has.lt;go_enter fN,fO;go_wp2_with fail;replace A:=aa A.out.drew;have⟨⟨G,M,O,Y⟩,_⟩:=A.out.has.four;have ak:=A.out.has.lt;have⟨ab,ac,ad,aj⟩:=aM.out _ A.out.ps.I
 go_region_held3(fun w'=>w'.cell? ⟨w.heap.size,0,none⟩=some (af ae 19)∧w'.cell? ⟨w.heap.size,1,none⟩=some (ah t.text)∧w'.cell? ⟨w.heap.size,2,none⟩=some (ag aQ t.leads.length aS)∧w'.cell? ⟨w.heap.size,3,none⟩=some (ag (some ⟨b,E,none⟩) t.kids.length ck)∧w'.cell? ⟨b,E,none⟩=some (af ae t.kids[0].kind)∧w'.cell? ⟨b,E+1,none⟩=some (ah t.kids[0].text)∧w'.cell? ⟨b,E+2,none⟩=some (ag b0 t.kids[0].leads.length ci)∧w'.cell? ⟨b,E+3,none⟩=some (ag bX t.kids[0].kids.length ce)) (first|(go_keep;done)|exact⟨G,M,O,Y,ab,ac,ad,aj⟩) (first
  |(go_at_call 198;refine(dn h _ A.out.ps.I _ t a4.out a1.out _ (by omega)).mono ?_;rintro e bE ⟨⟨bB,rfl,bz⟩,ao⟩;replace A:=aa (A.out.below ao);have⟨⟨G,M,O,Y⟩,_⟩:=A.out.has.four;have ak:=A.out.has.lt;have⟨ab,ac,ad,aj⟩:=aM.out _ A.out.ps.I;clear ao)
  |(refine A.out.fG 1 ?_;intro ba cg bG aG;replace A:=aa aG;have⟨⟨G,M,O,Y⟩,_⟩:=A.out.has.four;have ak:=A.out.has.lt;have⟨ab,ac,ad,aj⟩:=aM.out _ A.out.ps.I;clear aG)
  |(go_at_call 173;refine(aX.out t.kids[0] ct.out bS.out h B _ _ _ _ A.out.ga (by omega) _ bJ.out).mono ?_;rintro e bH ⟨bC,bA,bI,rfl,aJ,bq⟩;replace A:=aa (A.out.call aJ);have⟨⟨G,M,O,Y⟩,_⟩:=A.out.has.four;have ak:=A.out.has.lt;have⟨ab,ac,ad,aj⟩:=aM.out _ A.out.ps.I;clear aJ))
 all_goals
  go_wp2_with fail;replace A:=aa A.out.drew;have⟨⟨G,M,O,Y⟩,_⟩:=A.out.has.four;have ak:=A.out.has.lt;have⟨ab,ac,ad,aj⟩:=aN.out _ A.out.ps.I
  go_region_held3(fun w'=>w'.cell? ⟨w.heap.size,0,none⟩=some (af ae 19)∧w'.cell? ⟨w.heap.size,1,none⟩=some (ah t.text)∧w'.cell? ⟨w.heap.size,2,none⟩=some (ag aQ t.leads.length aS)∧w'.cell? ⟨w.heap.size,3,none⟩=some (ag (some ⟨b,E,none⟩) t.kids.length ck)∧w'.cell? ⟨b,E+4,none⟩=some (af ae t.kids[1].kind)∧w'.cell? ⟨b,E+5,none⟩=some (ah t.kids[1].text)∧w'.cell? ⟨b,E+6,none⟩=some (ag cc t.kids[1].leads.length cj)∧w'.cell? ⟨b,E+7,none⟩=some (ag bY t.kids[1].kids.length cf)) (first|(go_keep;done)|exact⟨G,M,O,Y,ab,ac,ad,aj⟩) (first
   |(go_at_call 198;refine(dn h _ A.out.ps.I _ t a4.out a1.out _ (by omega)).mono ?_;rintro e bE ⟨⟨bB,rfl,bz⟩,ao⟩;replace A:=aa (A.out.below ao);have⟨⟨G,M,O,Y⟩,_⟩:=A.out.has.four;have ak:=A.out.has.lt;have⟨ab,ac,ad,aj⟩:=aN.out _ A.out.ps.I;clear ao)
   |(refine A.out.fG 1 ?_;intro ba cg bG aG;replace A:=aa aG;have⟨⟨G,M,O,Y⟩,_⟩:=A.out.has.four;have ak:=A.out.has.lt;have⟨ab,ac,ad,aj⟩:=aN.out _ A.out.ps.I;clear aG)
   |(go_at_call 173;refine(aX.out t.kids[1] cu.out bT.out h B _ _ _ _ A.out.ga (by omega) _ bL.out).mono ?_;rintro e bH ⟨bC,bA,bI,rfl,aJ,bq⟩;replace A:=aa (A.out.call aJ);have⟨⟨G,M,O,Y⟩,_⟩:=A.out.has.four;have ak:=A.out.has.lt;have⟨ab,ac,ad,aj⟩:=aN.out _ A.out.ps.I;clear aJ))
  all_goals
   go_wp2_with fail;replace A:=aa A.out.drew;have⟨⟨G,M,O,Y⟩,_⟩:=A.out.has.four;have ak:=A.out.has.lt;have⟨ab,ac,ad,aj⟩:=aO.out _ A.out.ps.I
   go_region_held3(fun w'=>w'.cell? ⟨w.heap.size,0,none⟩=some (af ae 19)∧w'.cell? ⟨w.heap.size,1,none⟩=some (ah t.text)∧w'.cell? ⟨w.heap.size,2,none⟩=some (ag aQ t.leads.length aS)∧w'.cell? ⟨w.heap.size,3,none⟩=some (ag (some ⟨b,E,none⟩) t.kids.length ck)∧w'.cell? ⟨b,E+8,none⟩=some (af ae t.kids[2].kind)∧w'.cell? ⟨b,E+9,none⟩=some (ah t.kids[2].text)∧w'.cell? ⟨b,E+10,none⟩=some (ag cd t.kids[2].leads.length cl)∧w'.cell? ⟨b,E+11,none⟩=some (ag bZ t.kids[2].kids.length ch)) (first|(go_keep;done)|exact⟨G,M,O,Y,ab,ac,ad,aj⟩) (first
    |(go_at_call 198;refine(dn h _ A.out.ps.I _ t a4.out a1.out _ (by omega)).mono ?_;rintro e bE ⟨⟨bB,rfl,bz⟩,ao⟩;replace A:=aa (A.out.below ao);have⟨⟨G,M,O,Y⟩,_⟩:=A.out.has.four;have ak:=A.out.has.lt;have⟨ab,ac,ad,aj⟩:=aO.out _ A.out.ps.I;clear ao)
    |(refine A.out.fG 1 ?_;intro ba cg bG aG;replace A:=aa aG;have⟨⟨G,M,O,Y⟩,_⟩:=A.out.has.four;have ak:=A.out.has.lt;have⟨ab,ac,ad,aj⟩:=aO.out _ A.out.ps.I;clear aG)
    |(go_at_call 173;refine(aX.out t.kids[2] cv.out bV.out h B _ _ _ _ A.out.ga (by omega) _ bO.out).mono ?_;rintro e bH ⟨bC,bA,bI,rfl,aJ,bq⟩;replace A:=aa (A.out.call aJ);have⟨⟨G,M,O,Y⟩,_⟩:=A.out.has.four;have ak:=A.out.has.lt;have⟨ab,ac,ad,aj⟩:=aO.out _ A.out.ps.I;clear aJ))
   all_goals
    go_wp2_with fail;go_ret;exact⟨_,_,_,rfl,A.out.fin bR.out,by omega⟩
end Go.Proofs.YtdplggpbgommnaaGreatDoor
