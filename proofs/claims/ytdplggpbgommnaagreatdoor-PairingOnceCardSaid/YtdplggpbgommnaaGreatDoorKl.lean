/- semvcsref04: arrange. -/
import Derived.Test.YtdplggpbgommnaaGreatDoorG24
open Go renaming bodyPost_ret->aF,results->aH
open Go.Addr.mk renaming injEq->cx
open Go.IntKind renaming i64->ae
open Go.Lib renaming hid->aa
open Go.Proofs.Tryz renaming results121->pB
open Go.Value renaming agg->aq,int->af,slice->ag,string->ah
open Nat renaming le_refl->kI,zero_le->aW
open Option.some renaming injEq->aC
set_option maxRecDepth 100000
set_option maxHeartbeats 8000000
namespace Go.Proofs.YtdplggpbgommnaaGreatDoor
open Go.RowKit
theorem su:∀(ts:List Tree),ts.length<=ax ts
 |[]=>aW _
 |t::ts=>by have:=su ts;have:=t.size_eq;rw[gR,List.length_cons];omega
theorem Jx(k:Int)(n:Nat):b9 k n<=n+6:=by
 unfold b9
 repeat' split
 all_goals omega
theorem Jy{k:Int}{n L:Nat}(h:b9 k n=(L:Int))(G:k≠17):1<=L:=by
 unfold b9 at h;rw[if_neg G]at h
 repeat' split at h
 all_goals omega
theorem Jz{n L:Nat}(h:b9 1 n=(L:Int)):3<=L:=by unfold b9 at h;simp at h;omega
theorem JA{n L:Nat}(h:b9 2 n=(L:Int)):6<=L:=by
 unfold b9 at h;simp at h
 repeat' split at h
 all_goals omega
theorem JB{k:Int}{n L:Nat}(G:k=4\/k=8\/k=22)(h:b9 k n=(L:Int)):2<=L:=by
 unfold b9 at h;rcases G with rfl|rfl|rfl
 all_goals
  simp at h
  repeat' split at h
  all_goals omega
theorem kb{k c:Int}(h:k=c):(k !=17)=(c !=17)/\(k !=21)=(c !=21)/\(k==1)=(c==1)/\(k==2)=(c==2)/\(k==4)=(c==4)/\(k==8)=(c==8)/\(k==22)=(c==22)/\(k==16)=(c==16)/\(k==18)=(c==18):=by subst h;exact⟨rfl,rfl,rfl,rfl,rfl,rfl,rfl,rfl,rfl⟩
theorem IK(m:Nat)(hm:m<=100000):∀(t:Tree) (_:t.size<=m) (_:dw t) (h:Hp) (w:World) (_:ao h w) (v:Value) (_:aP h v t) (f:ByteArray) (_:Sh1 f),Calls Tryz.prog 121 #[v,ah f] w (A3 h w t):=by
 induction m with
 |zero=>intro t hn;have:=t.size_eq;omega
 |succ m cY=>
  intro t d7 mk h w cS v cV f hf;have cA:=aa cS;have dE:=aa (cY (by omega));have hz:=Tree.size_eq t;rw[hz]at d7;have eG:=su t.kids;obtain⟨L,cM⟩:∃L:Nat,b9 t.kind t.kids.length=(L:Int):=⟨(b9 t.kind t.kids.length).toNat,by have:=mk.leads;omega⟩
  have aO:L<=1000000:=by have:=Jx t.kind t.kids.length;omega
  have bz:=aa cM;have dC:=aa mk;have aZ:=aa hf;obtain⟨al,Y,aG,ck,ys,rfl,bX,eF,aM,d6,cU,he⟩:=cV.open;have cB:=aa cU;have dA:=aa he;have aS:=aa bX;have aN:Hid (Has ((w.alloc (.cells #[af ae t.kind,ah t.text,ag al t.leads.length Y,ag aG t.kids.length ck] 26)).alloc (.cells #[af ae 0,ah ⟨#[]⟩,ag none 0 0,ag none 0 0] 26)) w.heap.size #[af ae t.kind,ah t.text,ag al t.leads.length Y,ag aG t.kids.length ck]):=(Has.new _ _ _).alloc _;have bA:Hid (Has ((w.alloc (.cells #[af ae t.kind,ah t.text,ag al t.leads.length Y,ag aG t.kids.length ck] 26)).alloc (.cells #[af ae 0,ah ⟨#[]⟩,ag none 0 0,ag none 0 0] 26)) (w.heap.size+1) #[af ae 0,ah ⟨#[]⟩,ag none 0 0,ag none 0 0]):=Has.kY _ _ _ _;have a1:Hid (St w.heap.size h w h ((w.alloc (.cells #[af ae t.kind,ah t.text,ag al t.leads.length Y,ag aG t.kids.length ck] 26)).alloc (.cells #[af ae 0,ah ⟨#[]⟩,ag none 0 0,ag none 0 0] 26))):=((St.refl cA.out).alloc _).alloc _;have dN:Hid (h (w.heap.size+1)=none):=bI cA.out _ (by omega);clear cY cV cS cU d6 he hf mk hz cM bX;go_in;go_wp2_with fail;generalize(w.alloc (.cells #[af ae t.kind,ah t.text,ag al t.leads.length Y,ag aG t.kids.length ck] 26)).alloc (.cells #[af ae 0,ah ⟨#[]⟩,ag none 0 0,ag none 0 0] 26)=w0 at aN bA a1⊢;obtain⟨⟨ak,am,ax,aB⟩,-⟩:=aN.out.four;have aJ:=aN.out.lt;have bg:=bA.out.lt;have eL:w0.heap.size≠w.heap.size:=by omega
  have eM:w.heap.size≠w0.heap.size:=by omega
  go_region_held3(fun w'=>w'.cell? ⟨w.heap.size,0,none⟩=some (af ae t.kind)/\w'.cell? ⟨w.heap.size,1,none⟩=some (ah t.text)) (first|(go_keep;done)|exact⟨aL,ei⟩) (first
   |(go_at_call 109;refine(Lq t.kind t.kids.length aM _).mono ?_;rintro e w1 ⟨rfl,d8⟩;obtain rfl:=d8.symm;rw[bz.out])
   |(go_at_call 170;refine(It h _ (by first|exact a1.out.drew.I|exact a1.out.drew.I.alloc _) _ L rfl aO).mono ?_;rintro e aQ ⟨lv,ls,rfl,cq,c6,aX⟩;obtain⟨aT,c5,rfl⟩:=cq.shape;have ci:=aa cq;have ch:=aa c6;have cj:=aa aX;have cD:=aa (by first|exact aN.out.drew.below aX.below|exact(aN.out.drew.alloc _).below aX.below);have⟨⟨aL,ei,_,_⟩,_⟩:=cD.out.four;have ab:=aX.below.size;(first|(have cC:Hid (Has aQ w0.heap.size #[af ae 0,ah ⟨#[]⟩,ag none 0 0,ag none 0 0]):=((Has.new w0.drew #[af ae 0,ah ⟨#[]⟩,ag none 0 0,ag none 0 0] 26).below aX.below);have⟨⟨bH,bJ,bL,bN⟩,dU,dW,dX,dY⟩:=cC.out.four;have eI:=cC.out.lt)|skip);clear cq c6 aX))
  all_goals
   first
    |(obtain⟨W,aV⟩:∃W,W=aQ.alloc (.cells #[af ae t.kind,ah t.text,ag aT L c5,ag none 0 0] 26):=⟨_,rfl⟩;have aY:Hid (lx h w t #[af ae t.kind,ah t.text,ag al t.leads.length Y,ag aG t.kids.length ck] aQ.heap.size (ag aT L c5) L W ls):=(by rw[aV];exact lx.late a1.out aN.out bA.out ci.out ch.out cj.out);rw[<-aV];obtain⟨bu,bC⟩:∃b,b=aQ.heap.size:=⟨_,rfl⟩;rw[<-bC]at aY⊢;clear aV bC)
    |(obtain⟨W,aV⟩:∃W,W=(((aQ.setCell ⟨w0.heap.size,0,none⟩ (af ae t.kind)).setCell ⟨w0.heap.size,1,none⟩ (ah t.text)).setCell ⟨w0.heap.size,2,none⟩ (ag aT L c5)).setCell ⟨w0.heap.size,3,none⟩ (ag none 0 0):=⟨_,rfl⟩;have aY:Hid (lx h w t #[af ae t.kind,ah t.text,ag al t.leads.length Y,ag aG t.kids.length ck] w0.heap.size (ag aT L c5) L W ls):=(by rw[aV];exact lx.early rfl a1.out aN.out bA.out ci.out ch.out cj.out);rw[<-aV];obtain⟨bu,bC⟩:∃b,b=w0.heap.size:=⟨_,rfl⟩;rw[<-bC]at aY⊢;clear aV bC)
   clear aN bA a1 ci ch cj cD aJ bg ab ak am ax aB;have d3:t.kids.length*72<=140737488355328:=by omega
   go_wp2_with(at_make;refine jk iJ rfl _ _ rfl (St.refl aY.out.st.I) ae ae _ _ t.kids.length rfl rfl rfl rfl d3 ?_;intro e5 eb dm bd;have bp:=aa (aY.out.made dN.out ⟨bd.os,bd.tape,bd.output,bd.size,fun k bX=>bd.block k bX (fun e=>by cases e)⟩ dm);clear eb dm bd);obtain⟨gk,cQ⟩:∃g,g=W.heap.size:=⟨_,rfl⟩
   rw[<-cQ]at bp⊢;obtain⟨⟨ak,am,ax,aB⟩,-⟩:=bp.out.tb.four;have aJ:=bp.out.tb.lt;clear aY cQ;go_loopw[8] (fun i wr=>∃(j:Nat) (h1:Hp) (xs:List Value),j<=t.kids.length/\i=af ae j/\eE h w t #[af ae t.kind,ah t.text,ag al t.leads.length Y,ag aG t.kids.length ck] bu (ag aT L c5) (ag (some ⟨gk,0,none⟩) t.kids.length t.kids.length) L h1 wr j ls xs) (fun i _=>t.kids.length-(intOf i).toNat);case atStart=>exact⟨0,h,_,aW _,rfl,bp.out⟩
   case round=>
    obtain⟨j,h1,xs,eD,rfl,O⟩:=hrel;clear ak am ax aB aJ bp;have AI:=aa O;obtain⟨⟨ak,am,ax,aB⟩,-⟩:=O.tb.four;have aJ:=O.tb.lt;clear O;by_cases hj:j<t.kids.length
    ·obtain⟨b,off,dP,dR,dO,dQ,rfl,cX,co⟩:=ed cB.out dA.out j hj;have dD:=aa cX;have cz:=aa fun w' (d9:ao h w')=>co w' d9;obtain⟨d0,cl,cm,cn⟩:=co wr AI.out.st.gq;have cw:(0:Int)<=(j:Int):=by omega
     have dp:(j:Int)<(t.kids.length:Int):=by omega
     have d2:=aa (show t.kids[j].size<=m by have:=dB (List.getElem_mem hj);omega);have dG:=aa (dC.out.b4 j hj);clear cX co;obtain⟨cb,cN⟩:=cB.out.bi (by omega);have dv:=aa cN;clear cN;go_wp2_with fail;replace AI:=aa AI.out.drew
     go_region_held3(fun w'=>w'.cell? ⟨w.heap.size,0,none⟩=some (af ae t.kind)/\w'.cell? ⟨w.heap.size,1,none⟩=some (ah t.text)/\w'.cell? ⟨w.heap.size,2,none⟩=some (ag al t.leads.length Y)/\w'.cell? ⟨w.heap.size,3,none⟩=some (ag (some ⟨b,off,none⟩) t.kids.length ck)/\w'.cell? ⟨b,off+j*4,none⟩=some (af ae t.kids[j].kind)/\w'.cell? ⟨b,off+j*4+1,none⟩=some (ah t.kids[j].text)/\w'.cell? ⟨b,off+j*4+2,none⟩=some (ag dP t.kids[j].leads.length dR)/\w'.cell? ⟨b,off+j*4+3,none⟩=some (ag dO t.kids[j].kids.length dQ)) (first|(go_keep;done)|exact⟨ak,am,ax,aB,d0,cl,cm,cn⟩) (first
      |(go_at_call 171;refine(Iu _ _ _ _ _ _ _ _ _ aM _ f aZ.out).mono ?_;rintro e aQ ⟨⟨aX,rfl,eH⟩,cE⟩;replace AI:=aa (AI.out.below cE);have⟨⟨ak,am,ax,aB⟩,_⟩:=AI.out.tb.four;have aJ:=AI.out.tb.lt;have⟨d0,cl,cm,cn⟩:=cz.out _ AI.out.st.gq;clear cE)
      |(go_at_call 121;refine(dE.out _ d2.out dG.out h1 _ AI.out.st.I _ (dD.out.mono AI.out.st.le) _ (by assumption)).mono ?_;rintro e e6 ⟨e4,h7,e1,rfl,dn,cv,cG,cZ⟩;obtain⟨el,en,ek,em,-,rfl,-,-,-,-,-,-⟩:=cv.open;have dt:=aa (wa cv);have du:=aa cG;have dF:=aa cZ;replace AI:=aa (AI.out.call dn);have⟨⟨ak,am,ax,aB⟩,_⟩:=AI.out.tb.four;have aJ:=AI.out.tb.lt;have⟨d0,cl,cm,cn⟩:=cz.out _ AI.out.st.gq;obtain⟨eX,eY,eZ,e0,⟨eN,eO,eP,eW⟩,dU,dW,dX,dY,eJ,eK,ct⟩:=AI.out.slot hj;have ea:gk≠b:=(fun e=>by rw[e,AI.out.st.le _ _ dv.out]at ct;cases ct);have cu:b≠gk:=(fun e=>ea e.symm);clear cv dn cG cZ ct))
     all_goals
      go_wp2_with fail;go_roundw;case rel=>exact⟨j+1,h7,_,by omega,by go_num,AI.out.b4 hj dt.out du.out dF.out⟩
      case measure=>simp[intOf];omega
    ·obtain rfl:j=t.kids.length:=by omega
     obtain⟨⟨bH,bJ,bL,bN⟩,bO,bR,bS,bT⟩:=AI.out.ub.four;obtain⟨⟨r0,r1,r2,aj⟩,s0,ce,cf,cg⟩:=AI.out.rb.four;have cd:=AI.out.ub.lt;have bg:=AI.out.rb.lt;have dk:=AI.out.blt;have cu:bu≠w.heap.size:=by omega
     have c9:w.heap.size≠bu:=by omega
     have dg:bu≠w.heap.size+1:=by omega
     have dh:w.heap.size+1≠bu:=by omega
     have di:w.heap.size≠w.heap.size+1:=by omega
     have c8:w.heap.size+1≠w.heap.size:=by omega
     by_cases nI:t.kind=17;·obtain⟨a2,a3,g1,g2,a9,ba,a8,a4,a5⟩:=kb nI;have bv:=aa nI;clear nI;go_wp2_with fail;refine aF (v:=aq #[af ae t.kind,ah t.text,ag aT L c5,ag (some ⟨gk,0,none⟩) t.kids.length t.kids.length]) (by simp[aH,pB,go_sem,r0,r1,r2,aj]) rfl ?_;exact(AI.out).fin aS.out aO aM _
     by_cases oR:t.kind=21;·obtain⟨a2,a3,g1,g2,a9,ba,a8,a4,a5⟩:=kb oR;have bv:=aa oR;clear oR;go_wp2_with fail;refine aF (v:=aq #[af ae t.kind,ah t.text,ag aT L c5,ag (some ⟨gk,0,none⟩) t.kids.length t.kids.length]) (by simp[aH,pB,go_sem,r0,r1,r2,aj]) rfl ?_;exact(AI.out).fin aS.out aO aM _
     have ez:=Jy bz.out nI;by_cases k1:t.kind=1
     ·have eB:3<=L:=Jz (by rw[<-k1];exact bz.out);obtain⟨a2,a3,g1,g2,a9,ba,a8,a4,a5⟩:=kb k1;obtain⟨J,bm,rfl,aL,G,hy,bY,l2,bZ,b0⟩:=AI.out.oh 0 (by omega);have ab:J≠w.heap.size+1:=by have:=(AI.out.lo.lt J rfl).1;omega
      have cc:w.heap.size+1≠J:=fun e=>ab e.symm;have bV:=G 0;have cK:=G 1;have dZ:=G 2;obtain⟨dr,cF⟩:=hy 1 (by omega);obtain⟨ej,dT⟩:=hy 2 (by omega);clear G hy;have v0:(0:Int)<(L:Int):=by omega
      have cw:(1:Int)<(L:Int):=by omega
      have dp:(2:Int)<(L:Int):=by omega
      have bv:=aa k1;clear k1;go_wp2_with fail;refine aF (v:=aq #[af ae t.kind,ah t.text,ag (some ⟨J,0,none⟩) L c5,ag (some ⟨gk,0,none⟩) t.kids.length t.kids.length]) (by simp[aH,pB,go_sem,r0,r1,r2,aj]) rfl ?_;exact((AI.out.lead 0 (by omega) f aZ.out).lead 2 (by omega) ⟨#[10]⟩ (by unfold Sh1;decide)).fin aS.out aO aM _
     by_cases k2:t.kind=2
     ·have eC:6<=L:=JA (by rw[<-k2];exact bz.out);obtain⟨a2,a3,g1,g2,a9,ba,a8,a4,a5⟩:=kb k2;obtain⟨J,bm,rfl,aL,G,hy,bY,l2,bZ,b0⟩:=AI.out.oh 0 (by omega);have ab:J≠w.heap.size+1:=by have:=(AI.out.lo.lt J rfl).1;omega
      have cc:w.heap.size+1≠J:=fun e=>ab e.symm;have bV:=G 0;have cK:=G 1;have dZ:=G 2;have er:=G 3;have ey:=G 4;obtain⟨dr,cF⟩:=hy 1 (by omega);obtain⟨ej,dT⟩:=hy 2 (by omega);obtain⟨e7,eo⟩:=hy 3 (by omega);obtain⟨e8,ep⟩:=hy 4 (by omega);clear G hy;have v0:(0:Int)<(L:Int):=by omega
      have cw:(1:Int)<(L:Int):=by omega
      have dp:(2:Int)<(L:Int):=by omega
      have e2:(3:Int)<(L:Int):=by omega
      have e3:(4:Int)<(L:Int):=by omega
      have bv:=aa k2;clear k2;go_wp2_with fail;go_region_held3(fun w'=>w'.cell? ⟨bu,2,none⟩=some (ag (some ⟨J,0,none⟩) L c5)) (go_keep) (fail)
      all_goals
       go_wp2_with fail;have bq:=aa (((((AI.out.lead 0 (by omega) f aZ.out).drew).lead 2 (by omega) ⟨#[]⟩ (by unfold Sh1;decide)).lead 3 (by omega) ⟨#[]⟩ (by unfold Sh1;decide)).lead 4 (by omega) ⟨#[]⟩ (by unfold Sh1;decide));clear bH bJ bL bN bO bR bS bT r0 r1 r2 aj s0 ce cf cg aL ak am ax aB cd bg aJ AI;go_loopw[9] (fun i wr=>∃(q:Nat) (bG:List Value),6<=q/\q<=L/\i=af ae q/\eE h w t #[af ae t.kind,ah t.text,ag al t.leads.length Y,ag aG t.kids.length ck] bu (ag (some ⟨J,0,none⟩) L c5) (ag (some ⟨gk,0,none⟩) t.kids.length t.kids.length) L h1 wr t.kids.length bG xs) (fun i _=>L-(intOf i).toNat);case atStart=>exact⟨6,_,kI _,by omega,rfl,bq.out⟩
       case round=>
        obtain⟨q,bG,d4,d5,rfl,O⟩:=hrel;have AI:=aa O;obtain⟨⟨ak,am,ax,aB⟩,-⟩:=O.tb.four;have aJ:=O.tb.lt;clear O bq;obtain⟨⟨bH,bJ,bL,bN⟩,bO,bR,bS,bT⟩:=AI.out.ub.four;obtain⟨⟨r0,r1,r2,aj⟩,s0,ce,cf,cg⟩:=AI.out.rb.four;have cd:=AI.out.ub.lt;have bg:=AI.out.rb.lt;have dk:=AI.out.blt;have cu:bu≠w.heap.size:=by omega
        have c9:w.heap.size≠bu:=by omega
        have dg:bu≠w.heap.size+1:=by omega
        have dh:w.heap.size+1≠bu:=by omega
        have di:w.heap.size≠w.heap.size+1:=by omega
        have c8:w.heap.size+1≠w.heap.size:=by omega
        by_cases bE:q<L
        ·obtain⟨g',bm,bB,aL,G,hy,-,-,-,-⟩:=AI.out.oh q bE;simp only[aC,cx,and_true]at bB;subst bB;have d1:=G q;have w1:(0:Int)<=(q:Int):=by omega
         have w2:(q:Int)<(L:Int):=by omega
         clear G hy;go_wp2_with fail;go_roundw;case rel=>exact⟨q+1,_,by omega,by omega,by go_num,AI.out.lead q bE ⟨#[]⟩ (by unfold Sh1;decide)⟩
         case measure=>simp[intOf];omega
        ·have w3:¬(q:Int)<(L:Int):=by omega
         have ec:decide ((q:Int)<(L:Int))=false:=by simp;omega
         have aQ:decide (q<L)=false:=by simp;omega
         go_wp2_with fail;refine aF (v:=aq #[af ae t.kind,ah t.text,ag (some ⟨J,0,none⟩) L c5,ag (some ⟨gk,0,none⟩) t.kids.length t.kids.length]) (by simp[aH,pB,go_sem,r0,r1,r2,aj]) rfl ?_;exact(AI.out).fin aS.out aO aM _
     by_cases k4:t.kind=4\/t.kind=8\/t.kind=22
     ·have eA:=JB k4 bz.out;rcases k4 with k4|k4|k4
      iterate 3
       ·obtain⟨a2,a3,g1,g2,a9,ba,a8,a4,a5⟩:=kb k4;obtain⟨J,bm,rfl,aL,G,hy,bY,l2,bZ,b0⟩:=AI.out.oh 0 (by omega);have ab:J≠w.heap.size+1:=by have:=(AI.out.lo.lt J rfl).1;omega
        have cc:w.heap.size+1≠J:=fun e=>ab e.symm;have bV:=G 0;have cK:=G 1;obtain⟨dr,cF⟩:=hy 1 (by omega);clear G hy;have v0:(0:Int)<(L:Int):=by omega
        have cw:(1:Int)<(L:Int):=by omega
        have bv:=aa k4;clear k4;go_wp2_with fail;refine aF (v:=aq #[af ae t.kind,ah t.text,ag (some ⟨J,0,none⟩) L c5,ag (some ⟨gk,0,none⟩) t.kids.length t.kids.length]) (by simp[aH,pB,go_sem,r0,r1,r2,aj]) rfl ?_;exact((AI.out.lead 0 (by omega) f aZ.out).lead 1 (by omega) ⟨#[]⟩ (by unfold Sh1;decide)).fin aS.out aO aM _
     by_cases lM:t.kind=16\/t.kind=18
     ·rcases lM with lM|lM
      iterate 2
       ·obtain⟨a2,a3,g1,g2,a9,ba,a8,a4,a5⟩:=kb lM;obtain⟨J,bm,rfl,aL,G,hy,bY,l2,bZ,b0⟩:=AI.out.oh 0 (by omega);have ab:J≠w.heap.size+1:=by have:=(AI.out.lo.lt J rfl).1;omega
        have cc:w.heap.size+1≠J:=fun e=>ab e.symm;have bV:=G 0;clear G hy;have v0:(0:Int)<(L:Int):=by omega
        have bv:=aa lM;clear lM;go_wp2_with fail;have bq:=aa (AI.out.lead 0 (by omega) f aZ.out);clear bH bJ bL bN bO bR bS bT r0 r1 r2 aj s0 ce cf cg aL ak am ax aB cd bg aJ AI;go_loopw[10] (fun i wr=>∃(q:Nat) (bG:List Value),1<=q/\q<=L/\i=af ae q/\eE h w t #[af ae t.kind,ah t.text,ag al t.leads.length Y,ag aG t.kids.length ck] bu (ag (some ⟨J,0,none⟩) L c5) (ag (some ⟨gk,0,none⟩) t.kids.length t.kids.length) L h1 wr t.kids.length bG xs) (fun i _=>L-(intOf i).toNat);case atStart=>exact⟨1,_,kI _,by omega,rfl,bq.out⟩
        case round=>
         obtain⟨q,bG,d4,d5,rfl,O⟩:=hrel;have AI:=aa O;obtain⟨⟨ak,am,ax,aB⟩,-⟩:=O.tb.four;have aJ:=O.tb.lt;clear O bq;obtain⟨⟨bH,bJ,bL,bN⟩,bO,bR,bS,bT⟩:=AI.out.ub.four;obtain⟨⟨r0,r1,r2,aj⟩,s0,ce,cf,cg⟩:=AI.out.rb.four;have cd:=AI.out.ub.lt;have bg:=AI.out.rb.lt;have dk:=AI.out.blt;have cu:bu≠w.heap.size:=by omega
         have c9:w.heap.size≠bu:=by omega
         have dg:bu≠w.heap.size+1:=by omega
         have dh:w.heap.size+1≠bu:=by omega
         have di:w.heap.size≠w.heap.size+1:=by omega
         have c8:w.heap.size+1≠w.heap.size:=by omega
         by_cases bE:q<L
         ·obtain⟨g',bm,bB,aL,G,hy,-,-,-,-⟩:=AI.out.oh q bE;simp only[aC,cx,and_true]at bB;subst bB;have d1:=G q;have w1:(0:Int)<=(q:Int):=by omega
          have w2:(q:Int)<(L:Int):=by omega
          clear G hy;go_wp2_with fail;go_roundw;case rel=>exact⟨q+1,_,by omega,by omega,by go_num,AI.out.lead q bE ⟨#[]⟩ (by unfold Sh1;decide)⟩
          case measure=>simp[intOf];omega
         ·have w3:¬(q:Int)<(L:Int):=by omega
          have ec:decide ((q:Int)<(L:Int))=false:=by simp;omega
          have aQ:decide (q<L)=false:=by simp;omega
          go_wp2_with fail;refine aF (v:=aq #[af ae t.kind,ah t.text,ag (some ⟨J,0,none⟩) L c5,ag (some ⟨gk,0,none⟩) t.kids.length t.kids.length]) (by simp[aH,pB,go_sem,r0,r1,r2,aj]) rfl ?_;exact(AI.out).fin aS.out aO aM _
     have a2:(t.kind !=17)=true:=by simp;omega
     have a3:(t.kind !=21)=true:=by simp;omega
     have g1:(t.kind==1)=false:=by simp;omega
     have g2:(t.kind==2)=false:=by simp;omega
     have a9:(t.kind==4)=false:=by simp;omega
     have ba:(t.kind==8)=false:=by simp;omega
     have a8:(t.kind==22)=false:=by simp;omega
     have a4:(t.kind==16)=false:=by simp;omega
     have a5:(t.kind==18)=false:=by simp;omega
     obtain⟨J,bm,rfl,aL,G,hy,bY,l2,bZ,b0⟩:=AI.out.oh 0 (by omega);have ab:J≠w.heap.size+1:=by have:=(AI.out.lo.lt J rfl).1;omega
     have cc:w.heap.size+1≠J:=fun e=>ab e.symm;have bV:=G 0;clear G hy;have v0:(0:Int)<(L:Int):=by omega
     clear nI oR k1 k2 k4 lM;go_wp2_with fail;refine aF (v:=aq #[af ae t.kind,ah t.text,ag (some ⟨J,0,none⟩) L c5,ag (some ⟨gk,0,none⟩) t.kids.length t.kids.length]) (by simp[aH,pB,go_sem,r0,r1,r2,aj]) rfl ?_;exact(AI.out.lead 0 (by omega) f aZ.out).fin aS.out aO aM _
end Go.Proofs.YtdplggpbgommnaaGreatDoor
