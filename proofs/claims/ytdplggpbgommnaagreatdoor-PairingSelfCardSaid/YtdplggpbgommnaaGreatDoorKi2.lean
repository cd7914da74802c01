/- semvcsref02.pieces, by kinds. -/
import Derived.Test.YtdplggpbgommnaaGreatDoorG25
open Go.Addr.mk renaming injEq→cx
open Go.IntKind renaming i64→ae
open Go.Lib renaming hid→aa
open Go.Proofs.Tryz renaming func173→fN,ntmps173→fO,prog→ai
open Go.Value renaming int→af,slice→ag,string→ah
open List renaming getElem_mem→aK,take_length→cP
open Nat renaming add_zero→dz,zero_mul→gn
open Option.some renaming injEq→aC
set_option maxRecDepth 100000
set_option maxHeartbeats 4000000
namespace Go.Proofs.YtdplggpbgommnaaGreatDoor
open Go.RowKit
theorem IU(m:Nat)(aL:eP m)(t:Tree)(bq:t.size≤m+1)(ad:RT t)(aS:t.kind=1)(h:Hp)(B:Nat)(w:World)(v:Value)(n:Nat)(xs:List Value)(p:bN h B w v n xs v w)(b9:n+9*t.size≤4000000)(tv:Value)(ao:aP h tv t):Calls ai 173 #[v,tv] w (e9 h B w v n t.size):=by
 have aZ:=aa aL;have a3:=aa ad;have aM:=aa ad.2;have bH:Sh1 t.text:=ad.1.text;have a9:=aa p;have hz:=Tree.size_eq t;have a2:Hid (∀i (aQ:i<t.kids.length),t.kids[i].size≤m):=fun i aQ=>by have:=dB (aK aQ);omega
 obtain⟨ak,am,aj,ck,co,rfl,-,b0,bZ,bm,aV,aO⟩:=ao.open;have a4:=aa aV;have a1:=aa aO;have aT:=ad.1.leads;rw[aS]at aT ao⊢;have aN:=aa ao;have cd:ax t.kids+1≤t.size:=by omega
 clear aL ad ao bm aV aO aS hz aT bq;have A:=aa (PX.start p #[af ae 1,ah t.text,ag ak t.leads.length am,ag aj t.kids.length ck] 26);clear p;obtain⟨⟨E,G,M,O⟩,-⟩:=A.out.has.four;have Y:=A.out.has.lt;go_enter fN,fO;go_wp2_with fail;replace A:=aa A.out.drew;have⟨⟨E,G,M,O⟩,_⟩:=A.out.has.four;have Y:=A.out.has.lt
 go_region_held3(fun w'=>w'.cell? ⟨w.heap.size,0,none⟩=some (af ae 1)∧w'.cell? ⟨w.heap.size,1,none⟩=some (ah t.text)∧w'.cell? ⟨w.heap.size,2,none⟩=some (ag ak t.leads.length am)∧w'.cell? ⟨w.heap.size,3,none⟩=some (ag aj t.kids.length ck)) (first|(go_keep;done)|exact⟨E,G,M,O⟩) (first
  |(go_at_call 198;refine(dn h _ A.out.ps.I _ t aN.out aM.out _ (by omega)).mono ?_;rintro e bB ⟨⟨bA,rfl,bp⟩,ab⟩;replace A:=aa (A.out.below ab);have⟨⟨E,G,M,O⟩,_⟩:=A.out.has.four;have Y:=A.out.has.lt;clear ab)
  |(refine A.out.fG 2 ?_;intro bX cg bC ac;replace A:=aa ac;have⟨⟨E,G,M,O⟩,_⟩:=A.out.has.four;have Y:=A.out.has.lt;clear ac))
 all_goals
  go_wp2_with fail;go_loopw[0,6,25,26,27,28,29,30,31,32,33,34,35,36] (fun lv i _ _ _ _ _ _ _ _ _ _ _ _ wr=>∃(j n':Nat) (fF:List Value),j≤t.kids.length∧i=af ae j∧PX h B w.heap.size #[af ae 1,ah t.text,ag ak t.leads.length am,ag aj t.kids.length ck] (w.alloc (.cells #[af ae 1,ah t.text,ag ak t.leads.length am,ag aj t.kids.length ck] 26)) v n' fF lv wr∧n'≤n+2+9*ax (t.kids.take j)) (fun _ i _ _ _ _ _ _ _ _ _ _ _ _ _=>t.kids.length-(intOf i).toNat);case atStart=>exact⟨0,_,_,Nat.zero_le _,rfl,A.out,by omega⟩
  case round=>
   obtain⟨j,ce,cn,bY,rfl,aB,bg⟩:=hrel;have A:=aa aB;obtain⟨⟨E,G,M,O⟩,-⟩:=aB.has.four;have Y:=aB.has.lt;clear aB;by_cases hj:j<t.kids.length
   ·obtain⟨b,cf,bJ,bO,bI,bL,rfl,aX,aG⟩:=ed a4.out a1.out j hj;have a5:=aa aX;have bG:=aa aG;obtain⟨bR,bS,bT,bV⟩:=aG wr A.out.ps.I;have bd:=aa (a2.out j hj);have ba:=aa (a3.out.b4 j hj);have aJ:=eY t.kids j hj;have bv:=jK t.kids (j+1);have a8:=aa aJ;rw[aJ]at bv;have ch:(0:Int)≤(j:Int):=by omega
    have ci:(j:Int)<(t.kids.length:Int):=by omega
    clear aX aG aJ
    go_wp2_with(first
     |(go_at_call 173;refine(aZ.out t.kids[j] bd.out ba.out h B _ _ _ _ A.out.ga (by omega) _ a5.out).mono ?_;rintro e cm ⟨cl,bz,bE,rfl,aY,cc⟩;replace A:=aa (A.out.call aY);have⟨⟨E,G,M,O⟩,_⟩:=A.out.has.four;have Y:=A.out.has.lt;clear aY))
    go_roundw;case rel=>exact⟨j+1,bz,bE,by omega,by go_num,A.out,by rw[a8.out];omega⟩
    case measure=>simp[intOf];omega
   ·obtain rfl:j=t.kids.length:=by omega
    rw[cP]at bg
    go_wp2_with(first
     |(go_at_call 198;refine(dn h _ A.out.ps.I _ t aN.out aM.out _ (by omega)).mono ?_;rintro e bB ⟨⟨bA,rfl,bp⟩,ab⟩;replace A:=aa (A.out.below ab);have⟨⟨E,G,M,O⟩,_⟩:=A.out.has.four;have Y:=A.out.has.lt;clear ab)
     |(at_builtin;refine A.out.ky 1 ?_;intro cj bC ac;replace A:=aa ac;have⟨⟨E,G,M,O⟩,_⟩:=A.out.has.four;have Y:=A.out.has.lt;clear ac))
    go_ret;exact⟨_,_,_,rfl,A.out.fin a9.out,by omega⟩
theorem IV(m:Nat)(a2:eP m)(t:Tree)(cl:t.size≤m+1)(aM:RT t)(bm:t.kind=2)(h:Hp)(B:Nat)(w:World)(v:Value)(n:Nat)(xs:List Value)(p:bN h B w v n xs v w)(cD:n+9*t.size≤4000000)(tv:Value)(aV:aP h tv t):Calls ai 173 #[v,tv] w (e9 h B w v n t.size):=by
 have aX:=aa a2;have a1:=aa aM;have aZ:=aa aM.2;have cm:Sh1 t.text:=aM.1.text;have bS:=aa p;have hz:=Tree.size_eq t;have aY:Hid (∀i (bg:i<t.kids.length),t.kids[i].size≤m):=fun i bg=>by have:=dB (aK bg);omega
 obtain⟨aQ,aS,cn,ck,cQ,rfl,-,cC,cB,cj,bq,bd⟩:=aV.open;have a5:=aa bq;have a4:=aa bd;have aT:=aM.1.leads;rw[bm]at aT aV⊢;have aO:=aa aV;have h2:2≤t.kids.length:=by unfold b9 at aT;simp at aT;omega
 obtain⟨N,cf⟩:∃N,N+2=t.kids.length:=⟨t.kids.length-2,by omega⟩
 obtain⟨Y,ba⟩:∃Y,Y+1=t.kids.length:=⟨t.kids.length-1,by omega⟩
 have bz:N<t.kids.length:=by omega
 have bB:Y<t.kids.length:=by omega
 have cE:ax (t.kids.take N)+(t.kids[N]'bz).size+(t.kids[Y]'bB).size+1≤t.size:=by
  have e:=hz;have cw:=eY t.kids N bz;have cz:=eY t.kids Y bB;have cA:ax (t.kids.take (Y+1))=ax t.kids:=by rw[ba,cP]
  have cc:Y=N+1:=by omega
  subst cc;omega
 have v0:(0:Int)≤(N:Int):=by omega
 have cK:(N:Int)<(t.kids.length:Int):=by omega
 have cM:(0:Int)≤(Y:Int):=by omega
 have cN:(Y:Int)<(t.kids.length:Int):=by omega
 have q1:ae.wrap ((t.kids.length:Int)-2)=(N:Int):=by rw[bA (by omega)];omega
 have cG:ae.wrap ((t.kids.length:Int)-1)=(Y:Int):=by rw[bA (by omega)];omega
 clear h2 cf ba;clear a2 aM aV cj bq bd bm hz aT cl;obtain⟨b,ad,bY,b0,bX,bZ,rfl,aL,aJ⟩:=ed a5.out a4.out N (by omega);have bO:=aa aL;have aN:=aa aJ;have ch:=aa (aY.out N (by omega));have bT:=aa (a1.out.b4 N (by omega));clear aL aJ;obtain⟨ct,cF,cq,cv,co,cu,a8,aL,aJ⟩:=ed a5.out a4.out Y (by omega);simp only[aC,cx,and_true]at a8;obtain⟨cd,ce⟩:=a8;subst cd;subst ce;have bR:=aa aL;have a3:=aa aJ;have ci:=aa (aY.out Y (by omega));have bV:=aa (a1.out.b4 Y (by omega));clear aL aJ;have A:=aa (PX.start p #[af ae 2,ah t.text,ag aQ t.leads.length aS,ag (some ⟨b,ad,none⟩) t.kids.length ck] 26);clear p;obtain⟨⟨E,G,M,O⟩,-⟩:=A.out.has.four;have ab:=A.out.has.lt;go_enter fN,fO;go_wp2_with fail;replace A:=aa A.out.drew;have⟨⟨E,G,M,O⟩,_⟩:=A.out.has.four;have ab:=A.out.has.lt
 go_region_held3(fun w'=>w'.cell? ⟨w.heap.size,0,none⟩=some (af ae 2)∧w'.cell? ⟨w.heap.size,1,none⟩=some (ah t.text)∧w'.cell? ⟨w.heap.size,2,none⟩=some (ag aQ t.leads.length aS)∧w'.cell? ⟨w.heap.size,3,none⟩=some (ag (some ⟨b,ad,none⟩) t.kids.length ck)) (first|(go_keep;done)|exact⟨E,G,M,O⟩) (first
  |(go_at_call 198;refine(dn h _ A.out.ps.I _ t aO.out aZ.out _ (by omega)).mono ?_;rintro e bH ⟨⟨bE,rfl,bv⟩,ac⟩;replace A:=aa (A.out.below ac);have⟨⟨E,G,M,O⟩,_⟩:=A.out.has.four;have ab:=A.out.has.lt;clear ac)
  |(refine A.out.fG 3 ?_;intro a9 cg bI aj;replace A:=aa aj;have⟨⟨E,G,M,O⟩,_⟩:=A.out.has.four;have ab:=A.out.has.lt;clear aj))
 all_goals
  go_wp2_with(first
   |(go_at_call 199;refine(vm m aX.out t aY.out a1.out h B _ _ _ _ A.out.ga _ aO.out N (by omega) 6 (by omega) (by omega) (by omega)).mono ?_;rintro e bJ ⟨bG,bC,bL,rfl,ak,bp⟩;replace A:=aa (A.out.call ak);have⟨⟨E,G,M,O⟩,_⟩:=A.out.has.four;have ab:=A.out.has.lt;clear ak))
  replace A:=aa A.out.drew;have⟨⟨E,G,M,O⟩,_⟩:=A.out.has.four;have ab:=A.out.has.lt
  go_region_held3(fun w'=>w'.cell? ⟨w.heap.size,0,none⟩=some (af ae 2)∧w'.cell? ⟨w.heap.size,1,none⟩=some (ah t.text)∧w'.cell? ⟨w.heap.size,2,none⟩=some (ag aQ t.leads.length aS)∧w'.cell? ⟨w.heap.size,3,none⟩=some (ag (some ⟨b,ad,none⟩) t.kids.length ck)) (first|(go_keep;done)|exact⟨E,G,M,O⟩) (first
   |(go_at_call 198;refine(dn h _ A.out.ps.I _ t aO.out aZ.out _ (by omega)).mono ?_;rintro e bH ⟨⟨bE,rfl,bv⟩,ac⟩;replace A:=aa (A.out.below ac);have⟨⟨E,G,M,O⟩,_⟩:=A.out.has.four;have ab:=A.out.has.lt;clear ac)
   |(refine A.out.fG 2 ?_;intro a9 cg bI aj;replace A:=aa aj;have⟨⟨E,G,M,O⟩,_⟩:=A.out.has.four;have ab:=A.out.has.lt;clear aj))
  all_goals
   go_wp2_with fail;replace A:=aa A.out.drew;have⟨⟨E,G,M,O⟩,_⟩:=A.out.has.four;have ab:=A.out.has.lt;have⟨am,ao,aB,aG⟩:=aN.out _ A.out.ps.I
   go_region_held3(fun w'=>w'.cell? ⟨w.heap.size,0,none⟩=some (af ae 2)∧w'.cell? ⟨w.heap.size,1,none⟩=some (ah t.text)∧w'.cell? ⟨w.heap.size,2,none⟩=some (ag aQ t.leads.length aS)∧w'.cell? ⟨w.heap.size,3,none⟩=some (ag (some ⟨b,ad,none⟩) t.kids.length ck)∧w'.cell? ⟨b,ad+N*4,none⟩=some (af ae t.kids[N].kind)∧w'.cell? ⟨b,ad+N*4+1,none⟩=some (ah t.kids[N].text)∧w'.cell? ⟨b,ad+N*4+2,none⟩=some (ag bY t.kids[N].leads.length b0)∧w'.cell? ⟨b,ad+N*4+3,none⟩=some (ag bX t.kids[N].kids.length bZ)) (first|(go_keep;done)|exact⟨E,G,M,O,am,ao,aB,aG⟩) (first
    |(go_at_call 173;refine(aX.out t.kids[N] ch.out bT.out h B _ _ _ _ A.out.ga (by omega) _ bO.out).mono ?_;rintro e bJ ⟨bG,bC,bL,rfl,ak,bp⟩;replace A:=aa (A.out.call ak);have⟨⟨E,G,M,O⟩,_⟩:=A.out.has.four;have ab:=A.out.has.lt;have⟨am,ao,aB,aG⟩:=aN.out _ A.out.ps.I;clear ak)
    |(go_at_call 198;refine(dn h _ A.out.ps.I _ t aO.out aZ.out _ (by omega)).mono ?_;rintro e bH ⟨⟨bE,rfl,bv⟩,ac⟩;replace A:=aa (A.out.below ac);have⟨⟨E,G,M,O⟩,_⟩:=A.out.has.four;have ab:=A.out.has.lt;have⟨am,ao,aB,aG⟩:=aN.out _ A.out.ps.I;clear ac)
    |(refine A.out.fG 1 ?_;intro a9 cg bI aj;replace A:=aa aj;have⟨⟨E,G,M,O⟩,_⟩:=A.out.has.four;have ab:=A.out.has.lt;have⟨am,ao,aB,aG⟩:=aN.out _ A.out.ps.I;clear aj))
   all_goals
    have⟨am,ao,aB,aG⟩:=a3.out _ A.out.ps.I
    go_wp2_with(first
     |(go_at_call 173;refine(aX.out t.kids[Y] ci.out bV.out h B _ _ _ _ A.out.ga (by omega) _ bR.out).mono ?_;rintro e bJ ⟨bG,bC,bL,rfl,ak,bp⟩;replace A:=aa (A.out.call ak);have⟨⟨E,G,M,O⟩,_⟩:=A.out.has.four;have ab:=A.out.has.lt;have⟨am,ao,aB,aG⟩:=a3.out _ A.out.ps.I;clear ak))
    go_ret;exact⟨_,_,_,rfl,A.out.fin bS.out,by omega⟩
theorem IW(m:Nat)(ak:eP m)(t:Tree)(bv:t.size≤m+1)(E:RT t)(aM:t.kind=3)(h:Hp)(B:Nat)(w:World)(v:Value)(n:Nat)(xs:List Value)(p:bN h B w v n xs v w)(bO:n+9*t.size≤4000000)(tv:Value)(ac:aP h tv t):Calls ai 173 #[v,tv] w (e9 h B w v n t.size):=by
 have aX:=aa ak;have a2:=aa E;have a1:=aa E.2;have bA:Sh1 t.text:=E.1.text;have a8:=aa p;have hz:=Tree.size_eq t;have aZ:Hid (∀i (aL:i<t.kids.length),t.kids[i].size≤m):=fun i aL=>by have:=dB (aK aL);omega
 obtain⟨ao,aG,bB,ck,ce,rfl,-,bL,bJ,bq,aO,aJ⟩:=ac.open;have a3:=aa aO;have aY:=aa aJ;have ab:=E.1.leads;rw[aM]at ab ac⊢;have a4:=aa ac;have aN:t.kids.length=1:=by unfold b9 at ab;simp at ab;omega
 have bz:0<t.kids.length:=by omega
 have bS:(t.kids[0]'bz).size+1≤t.size:=by have e:=hz;rw[←cP (l:=t.kids),aN,eY t.kids 0 (by omega)]at e;simp[ax]at e;omega
 have v0:(0:Int)<(t.kids.length:Int):=by omega
 clear aN;clear ak E ac bq aO aJ aM hz ab bv;obtain⟨b,aS,bE,bH,bC,bG,rfl,aQ,aj⟩:=ed a3.out aY.out 0 (by omega);simp only[gn,dz]at aj;have a5:=aa aQ;have am:=aa aj;have bp:=aa (aZ.out 0 (by omega));have a9:=aa (a2.out.b4 0 (by omega));clear aQ aj;have A:=aa (PX.start p #[af ae 3,ah t.text,ag ao t.leads.length aG,ag (some ⟨b,aS,none⟩) t.kids.length ck] 26);clear p;obtain⟨⟨G,M,O,Y⟩,-⟩:=A.out.has.four;have ad:=A.out.has.lt;go_enter fN,fO;go_wp2_with fail;replace A:=aa A.out.drew;have⟨⟨G,M,O,Y⟩,_⟩:=A.out.has.four;have ad:=A.out.has.lt
 go_region_held3(fun w'=>w'.cell? ⟨w.heap.size,0,none⟩=some (af ae 3)∧w'.cell? ⟨w.heap.size,1,none⟩=some (ah t.text)∧w'.cell? ⟨w.heap.size,2,none⟩=some (ag ao t.leads.length aG)∧w'.cell? ⟨w.heap.size,3,none⟩=some (ag (some ⟨b,aS,none⟩) t.kids.length ck)) (first|(go_keep;done)|exact⟨G,M,O,Y⟩) (first
  |(go_at_call 198;refine(dn h _ A.out.ps.I _ t a4.out a1.out _ (by omega)).mono ?_;rintro e bZ ⟨⟨bX,rfl,bT⟩,aB⟩;replace A:=aa (A.out.below aB);have⟨⟨G,M,O,Y⟩,_⟩:=A.out.has.four;have ad:=A.out.has.lt;clear aB)
  |(refine A.out.fG 3 ?_;intro bI cg b0 aT;replace A:=aa aT;have⟨⟨G,M,O,Y⟩,_⟩:=A.out.has.four;have ad:=A.out.has.lt;clear aT))
 all_goals
  have⟨ba,bd,bg,bm⟩:=am.out _ A.out.ps.I
  go_wp2_with(first
   |(go_at_call 173;refine(aX.out t.kids[0] bp.out a9.out h B _ _ _ _ A.out.ga (by omega) _ a5.out).mono ?_;rintro e cc ⟨bY,bV,cd,rfl,aV,bR⟩;replace A:=aa (A.out.call aV);have⟨⟨G,M,O,Y⟩,_⟩:=A.out.has.four;have ad:=A.out.has.lt;have⟨ba,bd,bg,bm⟩:=am.out _ A.out.ps.I;clear aV))
  go_ret;exact⟨_,_,_,rfl,A.out.fin a8.out,by omega⟩
theorem IX(m:Nat)(ak:eP m)(t:Tree)(bv:t.size≤m+1)(E:RT t)(aM:t.kind=4)(h:Hp)(B:Nat)(w:World)(v:Value)(n:Nat)(xs:List Value)(p:bN h B w v n xs v w)(bO:n+9*t.size≤4000000)(tv:Value)(ac:aP h tv t):Calls ai 173 #[v,tv] w (e9 h B w v n t.size):=by
 have aX:=aa ak;have a2:=aa E;have a1:=aa E.2;have bA:Sh1 t.text:=E.1.text;have a8:=aa p;have hz:=Tree.size_eq t;have aZ:Hid (∀i (aL:i<t.kids.length),t.kids[i].size≤m):=fun i aL=>by have:=dB (aK aL);omega
 obtain⟨ao,aG,bB,ck,ce,rfl,-,bL,bJ,bq,aO,aJ⟩:=ac.open;have a3:=aa aO;have aY:=aa aJ;have ab:=E.1.leads;rw[aM]at ab ac⊢;have a4:=aa ac;have aN:t.kids.length=1:=by unfold b9 at ab;simp at ab;omega
 have bz:0<t.kids.length:=by omega
 have bS:(t.kids[0]'bz).size+1≤t.size:=by have e:=hz;rw[←cP (l:=t.kids),aN,eY t.kids 0 (by omega)]at e;simp[ax]at e;omega
 have v0:(0:Int)<(t.kids.length:Int):=by omega
 clear aN;clear ak E ac bq aO aJ aM hz ab bv;obtain⟨b,aS,bE,bH,bC,bG,rfl,aQ,aj⟩:=ed a3.out aY.out 0 (by omega);simp only[gn,dz]at aj;have a5:=aa aQ;have am:=aa aj;have bp:=aa (aZ.out 0 (by omega));have a9:=aa (a2.out.b4 0 (by omega));clear aQ aj;have A:=aa (PX.start p #[af ae 4,ah t.text,ag ao t.leads.length aG,ag (some ⟨b,aS,none⟩) t.kids.length ck] 26);clear p;obtain⟨⟨G,M,O,Y⟩,-⟩:=A.out.has.four;have ad:=A.out.has.lt;go_enter fN,fO;go_wp2_with fail;replace A:=aa A.out.drew;have⟨⟨G,M,O,Y⟩,_⟩:=A.out.has.four;have ad:=A.out.has.lt
 go_region_held3(fun w'=>w'.cell? ⟨w.heap.size,0,none⟩=some (af ae 4)∧w'.cell? ⟨w.heap.size,1,none⟩=some (ah t.text)∧w'.cell? ⟨w.heap.size,2,none⟩=some (ag ao t.leads.length aG)∧w'.cell? ⟨w.heap.size,3,none⟩=some (ag (some ⟨b,aS,none⟩) t.kids.length ck)) (first|(go_keep;done)|exact⟨G,M,O,Y⟩) (first
  |(go_at_call 198;refine(dn h _ A.out.ps.I _ t a4.out a1.out _ (by omega)).mono ?_;rintro e bZ ⟨⟨bX,rfl,bT⟩,aB⟩;replace A:=aa (A.out.below aB);have⟨⟨G,M,O,Y⟩,_⟩:=A.out.has.four;have ad:=A.out.has.lt;clear aB)
  |(refine A.out.fG 2 ?_;intro bI cg b0 aT;replace A:=aa aT;have⟨⟨G,M,O,Y⟩,_⟩:=A.out.has.four;have ad:=A.out.has.lt;clear aT))
 all_goals
  have⟨ba,bd,bg,bm⟩:=am.out _ A.out.ps.I
  go_wp2_with(first
   |(go_at_call 173;refine(aX.out t.kids[0] bp.out a9.out h B _ _ _ _ A.out.ga (by omega) _ a5.out).mono ?_;rintro e cc ⟨bY,bV,cd,rfl,aV,bR⟩;replace A:=aa (A.out.call aV);have⟨⟨G,M,O,Y⟩,_⟩:=A.out.has.four;have ad:=A.out.has.lt;have⟨ba,bd,bg,bm⟩:=am.out _ A.out.ps.I;clear aV))
  go_ret;exact⟨_,_,_,rfl,A.out.fin a8.out,by omega⟩
end Go.Proofs.YtdplggpbgommnaaGreatDoor
