/- semvcsref02.pieces, by kinds. -/
import Derived.Test.YtdplggpbgommnaaGreatDoorG25
open Go.Addr.mk renaming injEq→cx
open Go.IntKind renaming i64→ae
open Go.Lib renaming hid→aa
open Go.Proofs.Tryz renaming func173→fN,ntmps173→fO,prog→ai
open Go.Value renaming int→af,slice→ag,string→ah
open List renaming getElem_mem→aK,take_length→cP
open Nat renaming add_assoc→bP,add_zero→dz,one_mul→jj,reduceAdd→fM,zero_mul→gn
open Option.some renaming injEq→aC
set_option maxRecDepth 100000
set_option maxHeartbeats 4000000
namespace Go.Proofs.YtdplggpbgommnaaGreatDoor
open Go.RowKit
theorem IY(m:Nat)(M:eP m)(t:Tree)(aT:t.size≤m+1)(E:RT t)(ac:t.kind=5)(h:Hp)(B:Nat)(w:World)(v:Value)(n:Nat)(xs:List Value)(p:bN h B w v n xs v w)(a5:n+9*t.size≤4000000)(tv:Value)(G:aP h tv t):Calls ai 173 #[v,tv] w (e9 h B w v n t.size):=by
 have aV:=aa M;have aZ:=aa E;have aJ:=aa E.2;have a2:Sh1 t.text:=E.1.text;have aM:=aa p;have hz:=Tree.size_eq t;have aY:Hid (∀i (ab:i<t.kids.length),t.kids[i].size≤m):=fun i ab=>by have:=dB (aK ab);omega
 obtain⟨aO,aQ,aN,ck,bp,rfl,-,a4,a3,aS,aj,Y⟩:=G.open;have a1:=aa aj;have aX:=aa Y;have ad:=E.1.leads;rw[ac]at ad G⊢;have aL:=aa G;have a8:1≤t.size:=by omega
 clear M E G aS aj Y ac hz ad aT;have A:=aa (PX.start p #[af ae 5,ah t.text,ag aO t.leads.length aQ,ag aN t.kids.length ck] 26);clear p;obtain⟨⟨ao,ax,aB,aG⟩,-⟩:=A.out.has.four;have ak:=A.out.has.lt;go_enter fN,fO
 go_wp2_with(first
  |(go_at_call 198;refine(dn h _ A.out.ps.I _ t aL.out aJ.out _ (by omega)).mono ?_;rintro e bg ⟨⟨ba,rfl,a9⟩,O⟩;replace A:=aa (A.out.below O);have⟨⟨ao,ax,aB,aG⟩,_⟩:=A.out.has.four;have ak:=A.out.has.lt;clear O)
  |(at_builtin;refine A.out.ky 1 ?_;intro bd bm am;replace A:=aa am;have⟨⟨ao,ax,aB,aG⟩,_⟩:=A.out.has.four;have ak:=A.out.has.lt;clear am))
 go_ret;exact⟨_,_,_,rfl,A.out.fin aM.out,by omega⟩
theorem IZ(m:Nat)(M:eP m)(t:Tree)(aT:t.size≤m+1)(E:RT t)(ac:t.kind=6)(h:Hp)(B:Nat)(w:World)(v:Value)(n:Nat)(xs:List Value)(p:bN h B w v n xs v w)(a5:n+9*t.size≤4000000)(tv:Value)(G:aP h tv t):Calls ai 173 #[v,tv] w (e9 h B w v n t.size):=by
 have aV:=aa M;have aZ:=aa E;have aJ:=aa E.2;have a2:Sh1 t.text:=E.1.text;have aM:=aa p;have hz:=Tree.size_eq t;have aY:Hid (∀i (ab:i<t.kids.length),t.kids[i].size≤m):=fun i ab=>by have:=dB (aK ab);omega
 obtain⟨aO,aQ,aN,ck,bp,rfl,-,a4,a3,aS,aj,Y⟩:=G.open;have a1:=aa aj;have aX:=aa Y;have ad:=E.1.leads;rw[ac]at ad G⊢;have aL:=aa G;have a8:1≤t.size:=by omega
 clear M E G aS aj Y ac hz ad aT;have A:=aa (PX.start p #[af ae 6,ah t.text,ag aO t.leads.length aQ,ag aN t.kids.length ck] 26);clear p;obtain⟨⟨ao,ax,aB,aG⟩,-⟩:=A.out.has.four;have ak:=A.out.has.lt;go_enter fN,fO
 go_wp2_with(first
  |(go_at_call 198;refine(dn h _ A.out.ps.I _ t aL.out aJ.out _ (by omega)).mono ?_;rintro e bg ⟨⟨ba,rfl,a9⟩,O⟩;replace A:=aa (A.out.below O);have⟨⟨ao,ax,aB,aG⟩,_⟩:=A.out.has.four;have ak:=A.out.has.lt;clear O)
  |(at_builtin;refine A.out.ky 1 ?_;intro bd bm am;replace A:=aa am;have⟨⟨ao,ax,aB,aG⟩,_⟩:=A.out.has.four;have ak:=A.out.has.lt;clear am))
 go_ret;exact⟨_,_,_,rfl,A.out.fin aM.out,by omega⟩
theorem I0(m:Nat)(M:eP m)(t:Tree)(aT:t.size≤m+1)(E:RT t)(ac:t.kind=7)(h:Hp)(B:Nat)(w:World)(v:Value)(n:Nat)(xs:List Value)(p:bN h B w v n xs v w)(a5:n+9*t.size≤4000000)(tv:Value)(G:aP h tv t):Calls ai 173 #[v,tv] w (e9 h B w v n t.size):=by
 have aV:=aa M;have aZ:=aa E;have aJ:=aa E.2;have a2:Sh1 t.text:=E.1.text;have aM:=aa p;have hz:=Tree.size_eq t;have aY:Hid (∀i (ab:i<t.kids.length),t.kids[i].size≤m):=fun i ab=>by have:=dB (aK ab);omega
 obtain⟨aO,aQ,aN,ck,bp,rfl,-,a4,a3,aS,aj,Y⟩:=G.open;have a1:=aa aj;have aX:=aa Y;have ad:=E.1.leads;rw[ac]at ad G⊢;have aL:=aa G;have a8:1≤t.size:=by omega
 clear M E G aS aj Y ac hz ad aT;have A:=aa (PX.start p #[af ae 7,ah t.text,ag aO t.leads.length aQ,ag aN t.kids.length ck] 26);clear p;obtain⟨⟨ao,ax,aB,aG⟩,-⟩:=A.out.has.four;have ak:=A.out.has.lt;go_enter fN,fO
 go_wp2_with(first
  |(go_at_call 198;refine(dn h _ A.out.ps.I _ t aL.out aJ.out _ (by omega)).mono ?_;rintro e bg ⟨⟨ba,rfl,a9⟩,O⟩;replace A:=aa (A.out.below O);have⟨⟨ao,ax,aB,aG⟩,_⟩:=A.out.has.four;have ak:=A.out.has.lt;clear O)
  |(at_builtin;refine A.out.ky 1 ?_;intro bd bm am;replace A:=aa am;have⟨⟨ao,ax,aB,aG⟩,_⟩:=A.out.has.four;have ak:=A.out.has.lt;clear am))
 go_ret;exact⟨_,_,_,rfl,A.out.fin aM.out,by omega⟩
theorem I6(m:Nat)(aT:eP m)(t:Tree)(bT:t.size≤m+1)(aL:RT t)(ba:t.kind=20)(h:Hp)(B:Nat)(w:World)(v:Value)(n:Nat)(xs:List Value)(p:bN h B w v n xs v w)(ct:n+9*t.size≤4000000)(tv:Value)(aO:aP h tv t):Calls ai 173 #[v,tv] w (e9 h B w v n t.size):=by
 have aX:=aa aT;have a2:=aa aL;have a1:=aa aL.2;have ch:Sh1 t.text:=aL.1.text;have bq:=aa p;have hz:=Tree.size_eq t;have aZ:Hid (∀i (a9:i<t.kids.length),t.kids[i].size≤m):=fun i a9=>by have:=dB (aK a9);omega
 obtain⟨aQ,aS,ci,ck,cz,rfl,-,cq,co,bR,bg,a8⟩:=aO.open;have a3:=aa bg;have aY:=aa a8;have aN:=aL.1.leads;rw[ba]at aN aO⊢;have a4:=aa aO;have bd:t.kids.length=2:=by unfold b9 at aN;simp at aN;omega
 have bV:0<t.kids.length:=by omega
 have bX:1<t.kids.length:=by omega
 have cu:(t.kids[0]'bV).size+(t.kids[1]'bX).size+1≤t.size:=by have e:=hz;rw[←cP (l:=t.kids),bd,eY t.kids 1 (by omega),eY t.kids 0 (by omega)]at e;simp[ax]at e;omega
 have v0:(0:Int)<(t.kids.length:Int):=by omega
 have cw:(1:Int)<(t.kids.length:Int):=by omega
 clear bd;clear aT aL aO bR bg a8 ba hz aN bT;obtain⟨b,ac,bB,bE,bA,bC,rfl,aB,ab⟩:=ed a3.out aY.out 0 (by omega);simp only[gn,dz]at ab;have bm:=aa aB;have aM:=aa ab;have bJ:=aa (aZ.out 0 (by omega));have bv:=aa (a2.out.b4 0 (by omega));clear aB ab;obtain⟨b1,cv,cl,cn,cj,cm,a5,aB,ab⟩:=ed a3.out aY.out 1 (by omega);simp only[aC,cx,and_true]at a5;obtain⟨bG,bH⟩:=a5;subst bG;subst bH;simp only[jj,bP,fM]at ab;have bp:=aa aB;have aV:=aa ab;have bL:=aa (aZ.out 1 (by omega));have bz:=aa (a2.out.b4 1 (by omega));clear aB ab;have A:=aa (PX.start p #[af ae 20,ah t.text,ag aQ t.leads.length aS,ag (some ⟨b,ac,none⟩) t.kids.length ck] 26);clear p;obtain⟨⟨E,G,M,O⟩,-⟩:=A.out.has.four;have Y:=A.out.has.lt;go_enter fN,fO;go_wp2_with fail;replace A:=aa A.out.drew;have⟨⟨E,G,M,O⟩,_⟩:=A.out.has.four;have Y:=A.out.has.lt
 go_region_held3(fun w'=>w'.cell? ⟨w.heap.size,0,none⟩=some (af ae 20)∧w'.cell? ⟨w.heap.size,1,none⟩=some (ah t.text)∧w'.cell? ⟨w.heap.size,2,none⟩=some (ag aQ t.leads.length aS)∧w'.cell? ⟨w.heap.size,3,none⟩=some (ag (some ⟨b,ac,none⟩) t.kids.length ck)) (first|(go_keep;done)|exact⟨E,G,M,O⟩) (first
  |(go_at_call 198;refine(dn h _ A.out.ps.I _ t a4.out a1.out _ (by omega)).mono ?_;rintro e cc ⟨⟨bZ,rfl,bS⟩,ao⟩;replace A:=aa (A.out.below ao);have⟨⟨E,G,M,O⟩,_⟩:=A.out.has.four;have Y:=A.out.has.lt;clear ao)
  |(refine A.out.fG 3 ?_;intro bI cg cd aG;replace A:=aa aG;have⟨⟨E,G,M,O⟩,_⟩:=A.out.has.four;have Y:=A.out.has.lt;clear aG))
 all_goals
  go_wp2_with fail;replace A:=aa A.out.drew;have⟨⟨E,G,M,O⟩,_⟩:=A.out.has.four;have Y:=A.out.has.lt;have⟨ad,aj,ak,am⟩:=aM.out _ A.out.ps.I
  go_region_held3(fun w'=>w'.cell? ⟨w.heap.size,0,none⟩=some (af ae 20)∧w'.cell? ⟨w.heap.size,1,none⟩=some (ah t.text)∧w'.cell? ⟨w.heap.size,2,none⟩=some (ag aQ t.leads.length aS)∧w'.cell? ⟨w.heap.size,3,none⟩=some (ag (some ⟨b,ac,none⟩) t.kids.length ck)∧w'.cell? ⟨b,ac,none⟩=some (af ae t.kids[0].kind)∧w'.cell? ⟨b,ac+1,none⟩=some (ah t.kids[0].text)∧w'.cell? ⟨b,ac+2,none⟩=some (ag bB t.kids[0].leads.length bE)∧w'.cell? ⟨b,ac+3,none⟩=some (ag bA t.kids[0].kids.length bC)) (first|(go_keep;done)|exact⟨E,G,M,O,ad,aj,ak,am⟩) (first
   |(go_at_call 173;refine(aX.out t.kids[0] bJ.out bv.out h B _ _ _ _ A.out.ga (by omega) _ bm.out).mono ?_;rintro e ce ⟨b0,bY,cf,rfl,aJ,bO⟩;replace A:=aa (A.out.call aJ);have⟨⟨E,G,M,O⟩,_⟩:=A.out.has.four;have Y:=A.out.has.lt;have⟨ad,aj,ak,am⟩:=aM.out _ A.out.ps.I;clear aJ)
   |(go_at_call 198;refine(dn h _ A.out.ps.I _ t a4.out a1.out _ (by omega)).mono ?_;rintro e cc ⟨⟨bZ,rfl,bS⟩,ao⟩;replace A:=aa (A.out.below ao);have⟨⟨E,G,M,O⟩,_⟩:=A.out.has.four;have Y:=A.out.has.lt;have⟨ad,aj,ak,am⟩:=aM.out _ A.out.ps.I;clear ao)
   |(refine A.out.fG 1 ?_;intro bI cg cd aG;replace A:=aa aG;have⟨⟨E,G,M,O⟩,_⟩:=A.out.has.four;have Y:=A.out.has.lt;have⟨ad,aj,ak,am⟩:=aM.out _ A.out.ps.I;clear aG))
  all_goals
   have⟨ad,aj,ak,am⟩:=aV.out _ A.out.ps.I
   go_wp2_with(first
    |(go_at_call 173;refine(aX.out t.kids[1] bL.out bz.out h B _ _ _ _ A.out.ga (by omega) _ bp.out).mono ?_;rintro e ce ⟨b0,bY,cf,rfl,aJ,bO⟩;replace A:=aa (A.out.call aJ);have⟨⟨E,G,M,O⟩,_⟩:=A.out.has.four;have Y:=A.out.has.lt;have⟨ad,aj,ak,am⟩:=aV.out _ A.out.ps.I;clear aJ))
   go_ret;exact⟨_,_,_,rfl,A.out.fin bq.out,by omega⟩
theorem I7(m:Nat)(aN:eP m)(t:Tree)(bR:t.size≤m+1)(aG:RT t)(a5:t.kind=21)(h:Hp)(B:Nat)(w:World)(v:Value)(n:Nat)(xs:List Value)(p:bN h B w v n xs v w)(cm:n+9*t.size≤4000000)(tv:Value)(aM:aP h tv t):Calls ai 173 #[v,tv] w (e9 h B w v n t.size):=by
 have aQ:=aa aN;have aV:=aa aG;have bd:=aa aG.2;have b0:Sh1 t.text:=aG.1.text;have bq:=aa p;have hz:=Tree.size_eq t;have aT:Hid (∀i (a4:i<t.kids.length),t.kids[i].size≤m):=fun i a4=>by have:=dB (aK a4);omega
 obtain⟨aY,a1,cc,ck,cz,rfl,-,cl,cj,bO,a9,a3⟩:=aM.open;have aX:=aa a9;have aS:=aa a3;have aL:=aG.1.leads;rw[a5]at aL aM⊢;have bg:=aa aM;have a8:t.kids.length=2:=by unfold b9 at aL;simp at aL;omega
 have bS:0<t.kids.length:=by omega
 have bT:1<t.kids.length:=by omega
 have cn:(t.kids[0]'bS).size+(t.kids[1]'bT).size+1≤t.size:=by have e:=hz;rw[←cP (l:=t.kids),a8,eY t.kids 1 (by omega),eY t.kids 0 (by omega)]at e;simp[ax]at e;omega
 have v0:(0:Int)<(t.kids.length:Int):=by omega
 have cu:(1:Int)<(t.kids.length:Int):=by omega
 clear a8;clear aN aG aM bO a9 a3 a5 hz aL bR;obtain⟨b,ab,bB,bE,bA,bC,rfl,am,E⟩:=ed aX.out aS.out 0 (by omega);simp only[gn,dz]at E;have bm:=aa am;have aJ:=aa E;have bI:=aa (aT.out 0 (by omega));have bv:=aa (aV.out.b4 0 (by omega));clear am E;obtain⟨b1,cq,ce,ch,cd,cf,a2,am,E⟩:=ed aX.out aS.out 1 (by omega);simp only[aC,cx,and_true]at a2;obtain⟨bG,bH⟩:=a2;subst bG;subst bH;simp only[jj,bP,fM]at E;have bp:=aa am;have aO:=aa E;have bJ:=aa (aT.out 1 (by omega));have bz:=aa (aV.out.b4 1 (by omega));clear am E;have A:=aa (PX.start p #[af ae 21,ah t.text,ag aY t.leads.length a1,ag (some ⟨b,ab,none⟩) t.kids.length ck] 26);clear p;obtain⟨⟨ac,ad,aj,ak⟩,-⟩:=A.out.has.four;have ao:=A.out.has.lt;go_enter fN,fO;go_wp2_with fail;replace A:=aa A.out.drew;have⟨⟨ac,ad,aj,ak⟩,_⟩:=A.out.has.four;have ao:=A.out.has.lt;have⟨G,M,O,Y⟩:=aJ.out _ A.out.ps.I
 go_region_held3(fun w'=>w'.cell? ⟨w.heap.size,0,none⟩=some (af ae 21)∧w'.cell? ⟨w.heap.size,1,none⟩=some (ah t.text)∧w'.cell? ⟨w.heap.size,2,none⟩=some (ag aY t.leads.length a1)∧w'.cell? ⟨w.heap.size,3,none⟩=some (ag (some ⟨b,ab,none⟩) t.kids.length ck)∧w'.cell? ⟨b,ab,none⟩=some (af ae t.kids[0].kind)∧w'.cell? ⟨b,ab+1,none⟩=some (ah t.kids[0].text)∧w'.cell? ⟨b,ab+2,none⟩=some (ag bB t.kids[0].leads.length bE)∧w'.cell? ⟨b,ab+3,none⟩=some (ag bA t.kids[0].kids.length bC)) (first|(go_keep;done)|exact⟨ac,ad,aj,ak,G,M,O,Y⟩) (first
  |(go_at_call 173;refine(aQ.out t.kids[0] bI.out bv.out h B _ _ _ _ A.out.ga (by omega) _ bm.out).mono ?_;rintro e bY ⟨bX,bV,bZ,rfl,aB,bL⟩;replace A:=aa (A.out.call aB);have⟨⟨ac,ad,aj,ak⟩,_⟩:=A.out.has.four;have ao:=A.out.has.lt;have⟨G,M,O,Y⟩:=aJ.out _ A.out.ps.I;clear aB)
  |(go_at_call 198;refine(dn h _ A.out.ps.I _ t bg.out bd.out _ (by omega)).mono ?_;rintro e cv ⟨⟨ct,rfl,co⟩,aZ⟩;replace A:=aa (A.out.below aZ);have⟨⟨ac,ad,aj,ak⟩,_⟩:=A.out.has.four;have ao:=A.out.has.lt;have⟨G,M,O,Y⟩:=aJ.out _ A.out.ps.I;clear aZ)
  |(refine A.out.fG 1 ?_;intro ci cg cw ba;replace A:=aa ba;have⟨⟨ac,ad,aj,ak⟩,_⟩:=A.out.has.four;have ao:=A.out.has.lt;have⟨G,M,O,Y⟩:=aJ.out _ A.out.ps.I;clear ba))
 all_goals
  have⟨G,M,O,Y⟩:=aO.out _ A.out.ps.I
  go_wp2_with(first
   |(go_at_call 173;refine(aQ.out t.kids[1] bJ.out bz.out h B _ _ _ _ A.out.ga (by omega) _ bp.out).mono ?_;rintro e bY ⟨bX,bV,bZ,rfl,aB,bL⟩;replace A:=aa (A.out.call aB);have⟨⟨ac,ad,aj,ak⟩,_⟩:=A.out.has.four;have ao:=A.out.has.lt;have⟨G,M,O,Y⟩:=aO.out _ A.out.ps.I;clear aB))
  go_ret;exact⟨_,_,_,rfl,A.out.fin bq.out,by omega⟩
theorem I8(m:Nat)(aN:eP m)(t:Tree)(bE:t.size≤m+1)(aj:RT t)(aY:t.kind=22)(h:Hp)(B:Nat)(w:World)(v:Value)(n:Nat)(xs:List Value)(p:bN h B w v n xs v w)(bV:n+9*t.size≤4000000)(tv:Value)(aL:aP h tv t):Calls ai 173 #[v,tv] w (e9 h B w v n t.size):=by
 have a4:=aa aN;have a9:=aa aj;have aO:=aa aj.2;have bL:Sh1 t.text:=aj.1.text;have bg:=aa p;have hz:=Tree.size_eq t;have a8:Hid (∀i (aX:i<t.kids.length),t.kids[i].size≤m):=fun i aX=>by have:=dB (aK aX);omega
 obtain⟨aS,aT,bO,ck,cf,rfl,-,bT,bS,bB,a1,aV⟩:=aL.open;have ba:=aa a1;have a5:=aa aV;have aJ:=aj.1.leads;rw[aY]at aJ aL⊢;have aQ:=aa aL;have aZ:t.kids.length=1:=by unfold b9 at aJ;simp at aJ;omega
 have bG:0<t.kids.length:=by omega
 have bY:(t.kids[0]'bG).size+1≤t.size:=by have e:=hz;rw[←cP (l:=t.kids),aZ,eY t.kids 0 (by omega)]at e;simp[ax]at e;omega
 have v0:(0:Int)<(t.kids.length:Int):=by omega
 clear aZ;clear aN aj aL bB a1 aV aY hz aJ bE;obtain⟨b,ab,bq,bz,bp,bv,rfl,a2,aM⟩:=ed ba.out a5.out 0 (by omega);simp only[gn,dz]at aM;have bd:=aa a2;have ak:=aa aM;have bA:=aa (a8.out 0 (by omega));have bm:=aa (a9.out.b4 0 (by omega));clear a2 aM;have A:=aa (PX.start p #[af ae 22,ah t.text,ag aS t.leads.length aT,ag (some ⟨b,ab,none⟩) t.kids.length ck] 26);clear p;obtain⟨⟨E,G,M,O⟩,-⟩:=A.out.has.four;have Y:=A.out.has.lt;go_enter fN,fO
 go_wp2_with(first
  |(go_at_call 198;refine(dn h _ A.out.ps.I _ t aQ.out aO.out _ (by omega)).mono ?_;rintro e bI ⟨⟨bH,rfl,bC⟩,ac⟩;replace A:=aa (A.out.below ac);have⟨⟨E,G,M,O⟩,_⟩:=A.out.has.four;have Y:=A.out.has.lt;clear ac)
  |(at_builtin;refine A.out.ky 1 ?_;intro b0 bJ ad;replace A:=aa ad;have⟨⟨E,G,M,O⟩,_⟩:=A.out.has.four;have Y:=A.out.has.lt;clear ad))
 replace A:=aa A.out.drew;have⟨⟨E,G,M,O⟩,_⟩:=A.out.has.four;have Y:=A.out.has.lt;have⟨am,ao,aB,aG⟩:=ak.out _ A.out.ps.I
 go_region_held3(fun w'=>w'.cell? ⟨w.heap.size,0,none⟩=some (af ae 22)∧w'.cell? ⟨w.heap.size,1,none⟩=some (ah t.text)∧w'.cell? ⟨w.heap.size,2,none⟩=some (ag aS t.leads.length aT)∧w'.cell? ⟨w.heap.size,3,none⟩=some (ag (some ⟨b,ab,none⟩) t.kids.length ck)∧w'.cell? ⟨b,ab,none⟩=some (af ae t.kids[0].kind)∧w'.cell? ⟨b,ab+1,none⟩=some (ah t.kids[0].text)∧w'.cell? ⟨b,ab+2,none⟩=some (ag bq t.kids[0].leads.length bz)∧w'.cell? ⟨b,ab+3,none⟩=some (ag bp t.kids[0].kids.length bv)) (first|(go_keep;done)|exact⟨E,G,M,O,am,ao,aB,aG⟩) (first
  |(go_at_call 173;refine(a4.out t.kids[0] bA.out bm.out h B _ _ _ _ A.out.ga (by omega) _ bd.out).mono ?_;rintro e cd ⟨cc,bZ,ce,rfl,a3,bX⟩;replace A:=aa (A.out.call a3);have⟨⟨E,G,M,O⟩,_⟩:=A.out.has.four;have Y:=A.out.has.lt;have⟨am,ao,aB,aG⟩:=ak.out _ A.out.ps.I;clear a3)
  |(go_at_call 198;refine(dn h _ A.out.ps.I _ t aQ.out aO.out _ (by omega)).mono ?_;rintro e bI ⟨⟨bH,rfl,bC⟩,ac⟩;replace A:=aa (A.out.below ac);have⟨⟨E,G,M,O⟩,_⟩:=A.out.has.four;have Y:=A.out.has.lt;have⟨am,ao,aB,aG⟩:=ak.out _ A.out.ps.I;clear ac)
  |(refine A.out.fG 1 ?_;intro bR cg bJ ad;replace A:=aa ad;have⟨⟨E,G,M,O⟩,_⟩:=A.out.has.four;have Y:=A.out.has.lt;have⟨am,ao,aB,aG⟩:=ak.out _ A.out.ps.I;clear ad))
 all_goals
  go_wp2_with fail;go_ret;exact⟨_,_,_,rfl,A.out.fin bg.out,by omega⟩
end Go.Proofs.YtdplggpbgommnaaGreatDoor
