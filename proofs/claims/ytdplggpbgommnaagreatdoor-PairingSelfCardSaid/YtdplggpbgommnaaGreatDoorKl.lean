/- semvcsref04: arrange. -/
import Derived.Test.YtdplggpbgommnaaGreatDoorG27
open Go renaming bodyPost_ret→aF,results→aH
open Go.Addr.mk renaming injEq→cx
open Go.IntKind renaming i64→ae
open Go.Lib renaming hid→aa
open Go.Proofs.Tryz renaming results121→pB
open Go.Value renaming agg→aq,int→af,slice→ag,string→ah
open Nat renaming le_refl→an,zero_le→aW
open Option.some renaming injEq→aC
set_option maxRecDepth 100000
set_option maxHeartbeats 8000000
namespace Go.Proofs.YtdplggpbgommnaaGreatDoor
open Go.RowKit
theorem su:∀(ts:List Tree),ts.length≤ax ts
 |[]=>aW _
 |t::ts=>by have:=su ts;have:=t.size_eq;rw[gR,List.length_cons];omega
theorem Jx(k:Int)(n:Nat):b9 k n≤n+6:=by
 unfold b9
 repeat' split
 all_goals omega
theorem Jy{k:Int}{n L:Nat}(h:b9 k n=(L:Int))(A:k≠17):1≤L:=by
 unfold b9 at h;rw[if_neg A]at h
 repeat' split at h
 all_goals omega
theorem Jz{n L:Nat}(h:b9 1 n=(L:Int)):3≤L:=by unfold b9 at h;simp at h;omega
theorem JA{n L:Nat}(h:b9 2 n=(L:Int)):6≤L:=by
 unfold b9 at h;simp at h
 repeat' split at h
 all_goals omega
theorem JB{k:Int}{n L:Nat}(A:k=4∨k=8∨k=22)(h:b9 k n=(L:Int)):2≤L:=by
 unfold b9 at h;rcases A with rfl|rfl|rfl
 all_goals
  simp at h
  repeat' split at h
  all_goals omega
theorem kb{k c:Int}(h:k=c):(k !=17)=(c !=17)∧(k !=21)=(c !=21)∧(k==1)=(c==1)∧(k==2)=(c==2)∧(k==4)=(c==4)∧(k==8)=(c==8)∧(k==22)=(c==22)∧(k==16)=(c==16)∧(k==18)=(c==18):=by subst h;exact⟨rfl,rfl,rfl,rfl,rfl,rfl,rfl,rfl,rfl⟩
theorem IK(m:Nat)(eG:m≤100000):∀(t:Tree) (_:t.size≤m) (_:dw t) (h:Hp) (w:World) (_:ao h w) (v:Value) (_:aP h v t) (f:ByteArray) (_:Sh1 f),Calls Tryz.prog 121 #[v,ah f] w (A3 h w t):=by
 induction m with
 |zero=>intro t eH;have:=t.size_eq;omega
 |succ m de=>
  intro t ea mk h w c6 v c9 f cY;have cE:=aa c6;have dN:=aa (de (by omega));have hz:=Tree.size_eq t;rw[hz]at ea;have eI:=su t.kids;obtain⟨L,cU⟩:∃L:Nat,b9 t.kind t.kids.length=(L:Int):=⟨(b9 t.kind t.kids.length).toNat,by have:=mk.leads;omega⟩
  have aO:L≤1000000:=by have:=Jx t.kind t.kids.length;omega
  have bA:=aa cU;have dF:=aa mk;have aZ:=aa cY;obtain⟨O,Y,aG,ck,e8,rfl,bZ,eF,aM,d9,c8,cX⟩:=c9.open;have cF:=aa c8;have dE:=aa cX;have aS:=aa bZ;have aN:Hid (Has ((w.alloc (.cells #[af ae t.kind,ah t.text,ag O t.leads.length Y,ag aG t.kids.length ck] 26)).alloc (.cells #[af ae 0,ah ⟨#[]⟩,ag none 0 0,ag none 0 0] 26)) w.heap.size #[af ae t.kind,ah t.text,ag O t.leads.length Y,ag aG t.kids.length ck]):=(Has.new _ _ _).alloc _;have bB:Hid (Has ((w.alloc (.cells #[af ae t.kind,ah t.text,ag O t.leads.length Y,ag aG t.kids.length ck] 26)).alloc (.cells #[af ae 0,ah ⟨#[]⟩,ag none 0 0,ag none 0 0] 26)) (w.heap.size+1) #[af ae 0,ah ⟨#[]⟩,ag none 0 0,ag none 0 0]):=Has.kY _ _ _ _;have a1:Hid (St w.heap.size h w h ((w.alloc (.cells #[af ae t.kind,ah t.text,ag O t.leads.length Y,ag aG t.kids.length ck] 26)).alloc (.cells #[af ae 0,ah ⟨#[]⟩,ag none 0 0,ag none 0 0] 26))):=((St.refl cE.out).alloc _).alloc _;have dQ:Hid (h (w.heap.size+1)=none):=bI cE.out _ (by omega);clear de c9 c6 c8 d9 cX cY mk hz cU bZ;go_enter Tryz.func121,Tryz.ntmps121;go_wp2_with fail;generalize(w.alloc (.cells #[af ae t.kind,ah t.text,ag O t.leads.length Y,ag aG t.kids.length ck] 26)).alloc (.cells #[af ae 0,ah ⟨#[]⟩,ag none 0 0,ag none 0 0] 26)=w0 at aN bB a1⊢;obtain⟨⟨ak,am,ax,aB⟩,-⟩:=aN.out.four;have aJ:=aN.out.lt;have bm:=bB.out.lt;have eN:w0.heap.size≠w.heap.size:=by omega
  have eO:w.heap.size≠w0.heap.size:=by omega
  go_region_held3(fun w'=>w'.cell? ⟨w.heap.size,0,none⟩=some (af ae t.kind)∧w'.cell? ⟨w.heap.size,1,none⟩=some (ah t.text)) (first|(go_keep;done)|exact⟨aL,el⟩) (first
   |(go_at_call 109;refine(tm t.kind t.kids.length aM _).mono ?_;rintro e w1 ⟨rfl,eb⟩;obtain rfl:=eb.symm;rw[bA.out])
   |(go_at_call 170;refine(It h _ (by first|exact a1.out.drew.I|exact a1.out.drew.I.alloc _) _ L rfl aO).mono ?_;rintro e aQ ⟨lv,ls,rfl,cw,dh,aX⟩;obtain⟨aT,c5,rfl⟩:=cw.shape;have cm:=aa cw;have cl:=aa dh;have cn:=aa aX;have cK:=aa (by first|exact aN.out.drew.below aX.below|exact(aN.out.drew.alloc _).below aX.below);have⟨⟨aL,el,_,_⟩,_⟩:=cK.out.four;have ab:=aX.below.size;(first|(have cG:Hid (Has aQ w0.heap.size #[af ae 0,ah ⟨#[]⟩,ag none 0 0,ag none 0 0]):=((Has.new w0.drew #[af ae 0,ah ⟨#[]⟩,ag none 0 0,ag none 0 0] 26).below aX.below);have⟨⟨bL,bN,bO,bR⟩,dY,dZ,d0,d1⟩:=cG.out.four;have eK:=cG.out.lt)|skip);clear cw dh aX))
  all_goals
   first
    |(obtain⟨W,aV⟩:∃W,W=aQ.alloc (.cells #[af ae t.kind,ah t.text,ag aT L c5,ag none 0 0] 26):=⟨_,rfl⟩;have aY:Hid (lx h w t #[af ae t.kind,ah t.text,ag O t.leads.length Y,ag aG t.kids.length ck] aQ.heap.size (ag aT L c5) L W ls):=(by rw[aV];exact lx.late a1.out aN.out bB.out cm.out cl.out cn.out);rw[←aV];obtain⟨bu,bE⟩:∃b,b=aQ.heap.size:=⟨_,rfl⟩;rw[←bE]at aY⊢;clear aV bE)
    |(obtain⟨W,aV⟩:∃W,W=(((aQ.setCell ⟨w0.heap.size,0,none⟩ (af ae t.kind)).setCell ⟨w0.heap.size,1,none⟩ (ah t.text)).setCell ⟨w0.heap.size,2,none⟩ (ag aT L c5)).setCell ⟨w0.heap.size,3,none⟩ (ag none 0 0):=⟨_,rfl⟩;have aY:Hid (lx h w t #[af ae t.kind,ah t.text,ag O t.leads.length Y,ag aG t.kids.length ck] w0.heap.size (ag aT L c5) L W ls):=(by rw[aV];exact lx.early rfl a1.out aN.out bB.out cm.out cl.out cn.out);rw[←aV];obtain⟨bu,bE⟩:∃b,b=w0.heap.size:=⟨_,rfl⟩;rw[←bE]at aY⊢;clear aV bE)
   clear aN bB a1 cm cl cn cK aJ bm ab ak am ax aB;have d6:t.kids.length*72≤140737488355328:=by omega
   go_wp2_with(at_make;refine jk iJ rfl _ _ rfl (St.refl aY.out.st.I) ae ae _ _ t.kids.length rfl rfl rfl rfl d6 ?_;intro e6 ej dr bg;have bq:=aa (aY.out.made dQ.out ⟨bg.os,bg.tape,bg.output,bg.size,fun k bZ=>bg.block k bZ (fun e=>by cases e)⟩ dr);clear ej dr bg);obtain⟨M,cZ⟩:∃g,g=W.heap.size:=⟨_,rfl⟩
   rw[←cZ]at bq⊢;obtain⟨⟨ak,am,ax,aB⟩,-⟩:=bq.out.tb.four;have aJ:=bq.out.tb.lt;clear aY cZ;go_loopw[8,26,27,28,29,30,31,32,33,34,35,36,37,38,39,40,41,42,43] (fun i _ _ _ _ _ _ _ _ _ _ _ _ _ _ _ _ _ _ wr=>∃(j:Nat) (h1:Hp) (xs:List Value),j≤t.kids.length∧i=af ae j∧eE h w t #[af ae t.kind,ah t.text,ag O t.leads.length Y,ag aG t.kids.length ck] bu (ag aT L c5) (ag (some ⟨M,0,none⟩) t.kids.length t.kids.length) L h1 wr j ls xs) (fun i _ _ _ _ _ _ _ _ _ _ _ _ _ _ _ _ _ _ _=>t.kids.length-(intOf i).toNat);case atStart=>exact⟨0,h,_,aW _,rfl,bq.out⟩
   case round=>
    obtain⟨j,h1,xs,eD,rfl,G⟩:=hrel;clear ak am ax aB aJ bq;have AI:=aa G;obtain⟨⟨ak,am,ax,aB⟩,-⟩:=G.tb.four;have aJ:=G.tb.lt;clear G;by_cases hj:j<t.kids.length
    ·obtain⟨b,bJ,dT,dW,dR,dU,rfl,db,cv⟩:=ed cF.out dE.out j hj;have dG:=aa db;have cD:=aa fun w' (ec:ao h w')=>cv w' ec;obtain⟨co,cq,ct,cu⟩:=cv wr AI.out.st.gq;have cC:(0:Int)≤(j:Int):=by omega
     have du:(j:Int)<(t.kids.length:Int):=by omega
     have d5:=aa (show t.kids[j].size≤m by have:=dB (List.getElem_mem hj);omega);have dP:=aa (dF.out.b4 j hj);clear db cv;obtain⟨cb,cV⟩:=cF.out.bi (by omega);have dD:=aa cV;clear cV;go_wp2_with fail;replace AI:=aa AI.out.drew
     go_region_held3(fun w'=>w'.cell? ⟨w.heap.size,0,none⟩=some (af ae t.kind)∧w'.cell? ⟨w.heap.size,1,none⟩=some (ah t.text)∧w'.cell? ⟨w.heap.size,2,none⟩=some (ag O t.leads.length Y)∧w'.cell? ⟨w.heap.size,3,none⟩=some (ag (some ⟨b,bJ,none⟩) t.kids.length ck)∧w'.cell? ⟨b,bJ+j*4,none⟩=some (af ae t.kids[j].kind)∧w'.cell? ⟨b,bJ+j*4+1,none⟩=some (ah t.kids[j].text)∧w'.cell? ⟨b,bJ+j*4+2,none⟩=some (ag dT t.kids[j].leads.length dW)∧w'.cell? ⟨b,bJ+j*4+3,none⟩=some (ag dR t.kids[j].kids.length dU)) (first|(go_keep;done)|exact⟨ak,am,ax,aB,co,cq,ct,cu⟩) (first
      |(go_at_call 171;refine(Iu _ _ _ _ _ _ _ _ _ aM _ f aZ.out).mono ?_;rintro e aQ ⟨⟨aX,rfl,eJ⟩,cM⟩;replace AI:=aa (AI.out.below cM);have⟨⟨ak,am,ax,aB⟩,_⟩:=AI.out.tb.four;have aJ:=AI.out.tb.lt;have⟨co,cq,ct,cu⟩:=cD.out _ AI.out.st.gq;clear cM)
      |(go_at_call 121;refine(dN.out _ d5.out dP.out h1 _ AI.out.st.I _ (dG.out.mono AI.out.st.le) _ (by assumption)).mono ?_;rintro e e7 ⟨e5,h7,e2,rfl,dt,cB,cQ,dg⟩;obtain⟨eo,eq,en,ep,-,rfl,-,-,-,-,-,-⟩:=cB.open;have dA:=aa (dq cB);have dC:=aa cQ;have dO:=aa dg;replace AI:=aa (AI.out.call dt);have⟨⟨ak,am,ax,aB⟩,_⟩:=AI.out.tb.four;have aJ:=AI.out.tb.lt;have⟨co,cq,ct,cu⟩:=cD.out _ AI.out.st.gq;obtain⟨eZ,q1,e0,e1,⟨eP,eW,eX,eY⟩,dY,dZ,d0,d1,eL,eM,cz⟩:=AI.out.slot hj;have ei:M≠b:=(fun e=>by rw[e,AI.out.st.le _ _ dD.out]at cz;cases cz);have cA:b≠M:=(fun e=>ei e.symm);clear cB dt cQ dg cz))
     all_goals
      go_wp2_with fail;go_roundw;case rel=>exact⟨j+1,h7,_,by omega,by go_num,AI.out.b4 hj dA.out dC.out dO.out⟩
      case measure=>simp[intOf];omega
    ·obtain rfl:j=t.kids.length:=by omega
     obtain⟨⟨bL,bN,bO,bR⟩,bS,bT,bV,bX⟩:=AI.out.ub.four;obtain⟨⟨r0,ac,ad,aj⟩,cg,ch,ci,cj⟩:=AI.out.rb.four;have cf:=AI.out.ub.lt;have bm:=AI.out.rb.lt;have dp:=AI.out.blt;have cA:bu≠w.heap.size:=by omega
     have dj:w.heap.size≠bu:=by omega
     have dk:bu≠w.heap.size+1:=by omega
     have dm:w.heap.size+1≠bu:=by omega
     have dn:w.heap.size≠w.heap.size+1:=by omega
     have di:w.heap.size+1≠w.heap.size:=by omega
     by_cases nI:t.kind=17;·obtain⟨a2,a3,g1,a8,ba,bd,a9,a4,a5⟩:=kb nI;have bz:=aa nI;clear nI;go_wp2_with fail;refine aF (v:=aq #[af ae t.kind,ah t.text,ag aT L c5,ag (some ⟨M,0,none⟩) t.kids.length t.kids.length]) (by simp[aH,pB,go_sem,r0,ac,ad,aj]) rfl ?_;exact(AI.out).fin aS.out aO aM _
     by_cases oR:t.kind=21;·obtain⟨a2,a3,g1,a8,ba,bd,a9,a4,a5⟩:=kb oR;have bz:=aa oR;clear oR;go_wp2_with fail;refine aF (v:=aq #[af ae t.kind,ah t.text,ag aT L c5,ag (some ⟨M,0,none⟩) t.kids.length t.kids.length]) (by simp[aH,pB,go_sem,r0,ac,ad,aj]) rfl ?_;exact(AI.out).fin aS.out aO aM _
     have ez:=Jy bA.out nI;by_cases k1:t.kind=1
     ·have eB:3≤L:=Jz (by rw[←k1];exact bA.out);obtain⟨a2,a3,g1,a8,ba,bd,a9,a4,a5⟩:=kb k1;obtain⟨E,bp,rfl,aL,A,hy,b0,l2,cc,cd⟩:=AI.out.oh 0 (by omega);have ab:E≠w.heap.size+1:=by have:=(AI.out.lo.lt E rfl).1;omega
      have ce:w.heap.size+1≠E:=fun e=>ab e.symm;have bY:=A 0;have cS:=A 1;have d2:=A 2;obtain⟨dv,cN⟩:=hy 1 (by omega);obtain⟨em,dX⟩:=hy 2 (by omega);clear A hy;have v0:(0:Int)<(L:Int):=by omega
      have cC:(1:Int)<(L:Int):=by omega
      have du:(2:Int)<(L:Int):=by omega
      have bz:=aa k1;clear k1;go_wp2_with fail;refine aF (v:=aq #[af ae t.kind,ah t.text,ag (some ⟨E,0,none⟩) L c5,ag (some ⟨M,0,none⟩) t.kids.length t.kids.length]) (by simp[aH,pB,go_sem,r0,ac,ad,aj]) rfl ?_;exact((AI.out.lead 0 (by omega) f aZ.out).lead 2 (by omega) ⟨#[10]⟩ (by unfold Sh1;decide)).fin aS.out aO aM _
     by_cases k2:t.kind=2
     ·have eC:6≤L:=JA (by rw[←k2];exact bA.out);obtain⟨a2,a3,g1,a8,ba,bd,a9,a4,a5⟩:=kb k2;obtain⟨E,bp,rfl,aL,A,hy,b0,l2,cc,cd⟩:=AI.out.oh 0 (by omega);have ab:E≠w.heap.size+1:=by have:=(AI.out.lo.lt E rfl).1;omega
      have ce:w.heap.size+1≠E:=fun e=>ab e.symm;have bY:=A 0;have cS:=A 1;have d2:=A 2;have ex:=A 3;have ey:=A 4;obtain⟨dv,cN⟩:=hy 1 (by omega);obtain⟨em,dX⟩:=hy 2 (by omega);obtain⟨e9,er⟩:=hy 3 (by omega);obtain⟨e',es⟩:=hy 4 (by omega);clear A hy;have v0:(0:Int)<(L:Int):=by omega
      have cC:(1:Int)<(L:Int):=by omega
      have du:(2:Int)<(L:Int):=by omega
      have e3:(3:Int)<(L:Int):=by omega
      have e4:(4:Int)<(L:Int):=by omega
      have bz:=aa k2;clear k2;go_wp2_with fail;go_region_held3(fun w'=>w'.cell? ⟨bu,2,none⟩=some (ag (some ⟨E,0,none⟩) L c5)) (go_keep) (fail)
      all_goals
       go_wp2_with fail;have bv:=aa (((((AI.out.lead 0 (by omega) f aZ.out).drew).lead 2 (by omega) ⟨#[]⟩ (by unfold Sh1;decide)).lead 3 (by omega) ⟨#[]⟩ (by unfold Sh1;decide)).lead 4 (by omega) ⟨#[]⟩ (by unfold Sh1;decide));clear bL bN bO bR bS bT bV bX r0 ac ad aj cg ch ci cj aL ak am ax aB cf bm aJ AI;go_loopw[9,74,75,76,77,78,79,80,81,82,83,84] (fun i _ _ _ _ _ _ _ _ _ _ _ wr=>∃(q:Nat) (bH:List Value),6≤q∧q≤L∧i=af ae q∧eE h w t #[af ae t.kind,ah t.text,ag O t.leads.length Y,ag aG t.kids.length ck] bu (ag (some ⟨E,0,none⟩) L c5) (ag (some ⟨M,0,none⟩) t.kids.length t.kids.length) L h1 wr t.kids.length bH xs) (fun i _ _ _ _ _ _ _ _ _ _ _ _=>L-(intOf i).toNat);case atStart=>exact⟨6,_,an _,by omega,rfl,bv.out⟩
       case round=>
        obtain⟨q,bH,d7,d8,rfl,G⟩:=hrel;have AI:=aa G;obtain⟨⟨ak,am,ax,aB⟩,-⟩:=G.tb.four;have aJ:=G.tb.lt;clear G bv;obtain⟨⟨bL,bN,bO,bR⟩,bS,bT,bV,bX⟩:=AI.out.ub.four;obtain⟨⟨r0,ac,ad,aj⟩,cg,ch,ci,cj⟩:=AI.out.rb.four;have cf:=AI.out.ub.lt;have bm:=AI.out.rb.lt;have dp:=AI.out.blt;have cA:bu≠w.heap.size:=by omega
        have dj:w.heap.size≠bu:=by omega
        have dk:bu≠w.heap.size+1:=by omega
        have dm:w.heap.size+1≠bu:=by omega
        have dn:w.heap.size≠w.heap.size+1:=by omega
        have di:w.heap.size+1≠w.heap.size:=by omega
        by_cases bG:q<L
        ·obtain⟨d4,bp,bC,aL,A,hy,-,-,-,-⟩:=AI.out.oh q bG;simp only[aC,cx,and_true]at bC;subst bC;have d3:=A q;have w1:(0:Int)≤(q:Int):=by omega
         have w2:(q:Int)<(L:Int):=by omega
         clear A hy;go_wp2_with fail;go_roundw;case rel=>exact⟨q+1,_,by omega,by omega,by go_num,AI.out.lead q bG ⟨#[]⟩ (by unfold Sh1;decide)⟩
         case measure=>simp[intOf];omega
        ·have w3:¬(q:Int)<(L:Int):=by omega
         have ek:decide ((q:Int)<(L:Int))=false:=by simp;omega
         have aQ:decide (q<L)=false:=by simp;omega
         go_wp2_with fail;refine aF (v:=aq #[af ae t.kind,ah t.text,ag (some ⟨E,0,none⟩) L c5,ag (some ⟨M,0,none⟩) t.kids.length t.kids.length]) (by simp[aH,pB,go_sem,r0,ac,ad,aj]) rfl ?_;exact(AI.out).fin aS.out aO aM _
     by_cases k4:t.kind=4∨t.kind=8∨t.kind=22
     ·have eA:=JB k4 bA.out;rcases k4 with k4|k4|k4
      iterate 3
       ·obtain⟨a2,a3,g1,a8,ba,bd,a9,a4,a5⟩:=kb k4;obtain⟨E,bp,rfl,aL,A,hy,b0,l2,cc,cd⟩:=AI.out.oh 0 (by omega);have ab:E≠w.heap.size+1:=by have:=(AI.out.lo.lt E rfl).1;omega
        have ce:w.heap.size+1≠E:=fun e=>ab e.symm;have bY:=A 0;have cS:=A 1;obtain⟨dv,cN⟩:=hy 1 (by omega);clear A hy;have v0:(0:Int)<(L:Int):=by omega
        have cC:(1:Int)<(L:Int):=by omega
        have bz:=aa k4;clear k4;go_wp2_with fail;refine aF (v:=aq #[af ae t.kind,ah t.text,ag (some ⟨E,0,none⟩) L c5,ag (some ⟨M,0,none⟩) t.kids.length t.kids.length]) (by simp[aH,pB,go_sem,r0,ac,ad,aj]) rfl ?_;exact((AI.out.lead 0 (by omega) f aZ.out).lead 1 (by omega) ⟨#[]⟩ (by unfold Sh1;decide)).fin aS.out aO aM _
     by_cases lM:t.kind=16∨t.kind=18
     ·rcases lM with lM|lM
      iterate 2
       ·obtain⟨a2,a3,g1,a8,ba,bd,a9,a4,a5⟩:=kb lM;obtain⟨E,bp,rfl,aL,A,hy,b0,l2,cc,cd⟩:=AI.out.oh 0 (by omega);have ab:E≠w.heap.size+1:=by have:=(AI.out.lo.lt E rfl).1;omega
        have ce:w.heap.size+1≠E:=fun e=>ab e.symm;have bY:=A 0;clear A hy;have v0:(0:Int)<(L:Int):=by omega
        have bz:=aa lM;clear lM;go_wp2_with fail;have bv:=aa (AI.out.lead 0 (by omega) f aZ.out);clear bL bN bO bR bS bT bV bX r0 ac ad aj cg ch ci cj aL ak am ax aB cf bm aJ AI;go_loopw[10,95,96,97,98,99,100,101,102,103,104,105] (fun i _ _ _ _ _ _ _ _ _ _ _ wr=>∃(q:Nat) (bH:List Value),1≤q∧q≤L∧i=af ae q∧eE h w t #[af ae t.kind,ah t.text,ag O t.leads.length Y,ag aG t.kids.length ck] bu (ag (some ⟨E,0,none⟩) L c5) (ag (some ⟨M,0,none⟩) t.kids.length t.kids.length) L h1 wr t.kids.length bH xs) (fun i _ _ _ _ _ _ _ _ _ _ _ _=>L-(intOf i).toNat);case atStart=>exact⟨1,_,an _,by omega,rfl,bv.out⟩
        case round=>
         obtain⟨q,bH,d7,d8,rfl,G⟩:=hrel;have AI:=aa G;obtain⟨⟨ak,am,ax,aB⟩,-⟩:=G.tb.four;have aJ:=G.tb.lt;clear G bv;obtain⟨⟨bL,bN,bO,bR⟩,bS,bT,bV,bX⟩:=AI.out.ub.four;obtain⟨⟨r0,ac,ad,aj⟩,cg,ch,ci,cj⟩:=AI.out.rb.four;have cf:=AI.out.ub.lt;have bm:=AI.out.rb.lt;have dp:=AI.out.blt;have cA:bu≠w.heap.size:=by omega
         have dj:w.heap.size≠bu:=by omega
         have dk:bu≠w.heap.size+1:=by omega
         have dm:w.heap.size+1≠bu:=by omega
         have dn:w.heap.size≠w.heap.size+1:=by omega
         have di:w.heap.size+1≠w.heap.size:=by omega
         by_cases bG:q<L
         ·obtain⟨d4,bp,bC,aL,A,hy,-,-,-,-⟩:=AI.out.oh q bG;simp only[aC,cx,and_true]at bC;subst bC;have d3:=A q;have w1:(0:Int)≤(q:Int):=by omega
          have w2:(q:Int)<(L:Int):=by omega
          clear A hy;go_wp2_with fail;go_roundw;case rel=>exact⟨q+1,_,by omega,by omega,by go_num,AI.out.lead q bG ⟨#[]⟩ (by unfold Sh1;decide)⟩
          case measure=>simp[intOf];omega
         ·have w3:¬(q:Int)<(L:Int):=by omega
          have ek:decide ((q:Int)<(L:Int))=false:=by simp;omega
          have aQ:decide (q<L)=false:=by simp;omega
          go_wp2_with fail;refine aF (v:=aq #[af ae t.kind,ah t.text,ag (some ⟨E,0,none⟩) L c5,ag (some ⟨M,0,none⟩) t.kids.length t.kids.length]) (by simp[aH,pB,go_sem,r0,ac,ad,aj]) rfl ?_;exact(AI.out).fin aS.out aO aM _
     have a2:(t.kind !=17)=true:=by simp;omega
     have a3:(t.kind !=21)=true:=by simp;omega
     have g1:(t.kind==1)=false:=by simp;omega
     have a8:(t.kind==2)=false:=by simp;omega
     have ba:(t.kind==4)=false:=by simp;omega
     have bd:(t.kind==8)=false:=by simp;omega
     have a9:(t.kind==22)=false:=by simp;omega
     have a4:(t.kind==16)=false:=by simp;omega
     have a5:(t.kind==18)=false:=by simp;omega
     obtain⟨E,bp,rfl,aL,A,hy,b0,l2,cc,cd⟩:=AI.out.oh 0 (by omega);have ab:E≠w.heap.size+1:=by have:=(AI.out.lo.lt E rfl).1;omega
     have ce:w.heap.size+1≠E:=fun e=>ab e.symm;have bY:=A 0;clear A hy;have v0:(0:Int)<(L:Int):=by omega
     clear nI oR k1 k2 k4 lM;go_wp2_with fail;refine aF (v:=aq #[af ae t.kind,ah t.text,ag (some ⟨E,0,none⟩) L c5,ag (some ⟨M,0,none⟩) t.kids.length t.kids.length]) (by simp[aH,pB,go_sem,r0,ac,ad,aj]) rfl ?_;exact(AI.out.lead 0 (by omega) f aZ.out).fin aS.out aO aM _
end Go.Proofs.YtdplggpbgommnaaGreatDoor
