/- semvcsref02: leads, Printable, limits, Depth: they return something. -/
import Derived.Test.YtdplggpbgommnaaGreatDoorG25
open Go.IntKind renaming i64->ae
open Go.Lib renaming hid->aa
open Go.Proofs.Tryz renaming prog->ai
open Go.RowKit.Below renaming refl->aD
open Go.Value renaming int->af,slice->ag,string->ah
open List renaming getElem_mem->aK
open Nat renaming le_refl->kI,zero_le->aW
set_option maxRecDepth 100000
set_option maxHeartbeats 4000000
namespace Go.Proofs.YtdplggpbgommnaaGreatDoor
open Go.RowKit
theorem Jb(m:Nat):∀(t:Tree) (_:t.size<=m) (h:Hp) (w:World) (_:ao h w) (v:Value) (_:aP h v t),Calls ai 84 #[v] w fun e w'=>nS e/\Below w.heap.size w w':=by
 induction m with
 |zero=>intro t hn;have:=t.size_eq;omega
 |succ m aM=>
  intro t a1 h w ax v aJ;have aj:=aa ax;have aT:=aa aM;have hz:=Tree.size_eq t;rw[hz]at a1;obtain⟨al,O,J,ck,ys,rfl,bm,bq,bp,aB,aG,he⟩:=aJ.open;have a2:=aa aB;have aQ:=aa aG;have aO:=aa he;clear aM aJ hz ax aG aB he;go_in;have ak:Hid (Has (w.alloc (.cells #[af ae t.kind,ah t.text,ag al t.leads.length O,ag J t.kids.length ck] 26)) w.heap.size #[af ae t.kind,ah t.text,ag al t.leads.length O,ag J t.kids.length ck]):=Has.new _ _ _;have B0:Hid (Below w.heap.size w (w.alloc (.cells #[af ae t.kind,ah t.text,ag al t.leads.length O,ag J t.kids.length ck] 26))):=(aD _ _).alloc (kI _) _;generalize t.kind=k at ak B0⊢;go_wp2_with fail;all_goals try subst_vars
  all_goals try(go_ret;exact⟨fW _,B0.out⟩)
  all_goals
   go_loopw[4] (fun i wr=>∃(j:Nat),j<=t.kids.length/\i=af ae j/\(∃aN,Has wr w.heap.size #[af ae aN,ah t.text,ag al t.leads.length O,ag J t.kids.length ck])/\Below w.heap.size w wr) (fun i _=>t.kids.length-(intOf i).toNat);case atStart=>exact⟨0,aW _,rfl,⟨_,ak.out⟩,B0.out⟩
   case round=>
    obtain⟨j,bg,rfl,⟨aN,xb⟩,bl⟩:=hrel;obtain⟨⟨bC,bE,bG,bH⟩,-⟩:=xb.four;have bv:=xb.lt;have aX:=aa xb;have G:=aa bl;clear xb bl;by_cases hj:j<t.kids.length
    ·obtain⟨b,off,a4,a8,a3,a5,rfl,aL,am⟩:=ed aQ.out aO.out j hj;obtain⟨d0,a9,ba,bd⟩:=am wr (aj.out.below G.out);have aS:=aa aL;have bz:(0:Int)<=(j:Int):=by omega
     have bA:(j:Int)<(t.kids.length:Int):=by omega
     have aZ:=aa (show t.kids[j].size<=m by have:=dB (aK hj);omega);clear aL am;go_wp2_with fail;refine(aT.out _ aZ.out h _ (aj.out.below G.out) _ aS.out).mono ?_;rintro e bB ⟨⟨aY,rfl⟩,Y⟩;have ab:=aa (G.out.trans (Y.mono G.out.size));have aV:=aa (aX.out.below Y);clear Y;cases aY;·go_wp2_with fail;go_ret;exact⟨fW _,ab.out⟩
     ·go_wp2_with fail;go_roundw;case rel=>exact⟨j+1,by omega,by go_num,⟨_,aV.out⟩,ab.out⟩
      case measure=>simp[intOf];omega
    ·go_wp2_with fail;go_ret;exact⟨fW _,G.out⟩
theorem Jc(m:Nat):∀(t:Tree) (_:t.size<=m) (_:t.lb) (h:Hp) (w:World) (_:ao h w) (v:Value) (_:aP h v t),Calls ai 122 #[v] w fun e w'=>nS e/\Below w.heap.size w w':=by
 induction m with
 |zero=>intro t hn;have:=t.size_eq;omega
 |succ m a9=>
  intro t bH aN h w a1 v a5;have aL:=aa a1;have bv:=aa a9;have hz:=Tree.size_eq t;have ba:=aa ((Tree.og t).1 aN).1.2;have bg:=aa ((Tree.og t).1 aN).2;clear aN;rw[hz]at bH;obtain⟨al,ab,O,ck,ys,rfl,cf,cg,bG,a3,a4,he⟩:=a5.open;have bm:=aa a3;have bp:=aa a4;have bd:=aa he;clear a9 a5 hz a1 a4 a3 he;go_in;have ak:Hid (Has (w.alloc (.cells #[af ae t.kind,ah t.text,ag al t.leads.length ab,ag O t.kids.length ck] 26)) w.heap.size #[af ae t.kind,ah t.text,ag al t.leads.length ab,ag O t.kids.length ck]):=Has.new _ _ _;have B0:Hid (Below w.heap.size w (w.alloc (.cells #[af ae t.kind,ah t.text,ag al t.leads.length ab,ag O t.kids.length ck] 26))):=(aD _ _).alloc (kI _) _;go_wp2_with fail;generalize w.alloc (.cells #[af ae t.kind,ah t.text,ag al t.leads.length ab,ag O t.kids.length ck] 26)=w0 at ak B0⊢;obtain⟨⟨ax,aJ,aB,aG⟩,-⟩:=ak.out.four;have bJ:=ak.out.lt
  go_region_held3(fun w'=>w'.cell? ⟨w.heap.size,0,none⟩=some (af ae t.kind)/\w'.cell? ⟨w.heap.size,2,none⟩=some (ag al t.leads.length ab)/\w'.cell? ⟨w.heap.size,3,none⟩=some (ag O t.kids.length ck)) (first|(go_keep;done)|exact⟨ax,aB,aG⟩) (first
   |(go_at_call 109;refine(Lq t.kind t.kids.length bG _).mono ?_;rintro e w1 ⟨rfl,bI⟩;obtain rfl:=bI.symm))
  all_goals
   have aV:Hid (Has w0.drew _ _):=ak.out.drew;have aS:Hid (Below w.heap.size w w0.drew):=B0.out.drew;clear ak B0 ax aJ aB aG bJ;obtain⟨⟨bR,bS,bT,bV⟩,-⟩:=aV.out.four;generalize b9 t.kind t.kids.length=z;obtain⟨bA,aX⟩:∃b,((t.leads.length:Int)!=z)=b:=⟨_,rfl⟩
   rw[aX];clear aX;cases bA
   ·go_wp2_with fail;go_loopw[3] (fun i wr=>∃(j:Nat),j<=t.leads.length/\i=af ae j/\(∃J,Has wr w.heap.size #[af ae J,ah t.text,ag al t.leads.length ab,ag O t.kids.length ck])/\Below w.heap.size w wr) (fun i _=>t.leads.length-(intOf i).toNat);case atStart=>exact⟨0,aW _,rfl,⟨_,aV.out⟩,aS.out⟩
    case round=>
     obtain⟨j,bC,rfl,⟨J,xb⟩,bl⟩:=hrel;clear bR bS bT bV;obtain⟨⟨ax,aJ,aB,aG⟩,-⟩:=xb.four;have bL:=xb.lt;have aj:=aa xb;have G:=aa bl;clear xb bl;by_cases hj:j<t.leads.length
     ·obtain⟨b,off,rfl,-,aY⟩:=bm.out.cells (aL.out.below G.out) (by omega);have d0:=aY j (ah t.leads[j]) (by simp[hj]);have bN:(0:Int)<=(j:Int):=by omega
      have bO:(j:Int)<(t.leads.length:Int):=by omega
      have aO:=aa (ba.out _ (aK hj));clear aY;by_cases am:J=1
      ·have gk:(J==1)=true:=by simpa using am
       by_cases a2:j=2
       ·have bB:((j:Int)==2)=true:=by simp;omega
        clear am a2;go_wp2_with fail
        first
         |go_region_law(first|(go_simp;go_at_call 172;refine(ue _ _ (by have:=aO.out;omega) _).mono ?_;rintro e aQ ⟨⟨Y,rfl⟩,rfl⟩))
         |fail
        all_goals
         cases Y;·go_wp2_with fail;go_ret;exact⟨fW _,G.out.drew⟩
         ·go_wp2_with fail;go_roundw;case rel=>exact⟨j+1,by omega,by go_num,⟨_,aj.out.drew⟩,G.out.drew⟩
          case measure=>simp[intOf];omega
       ·have bB:((j:Int)==2)=false:=by rw[beq_eq_false_iff_ne];omega
        clear am a2;go_wp2_with fail
        first
         |go_region_law(first|(go_simp;go_at_call 172;refine(ue _ _ (by have:=aO.out;omega) _).mono ?_;rintro e aQ ⟨⟨Y,rfl⟩,rfl⟩))
         |fail
        all_goals
         cases Y;·go_wp2_with fail;go_ret;exact⟨fW _,G.out.drew⟩
         ·go_wp2_with fail;go_roundw;case rel=>exact⟨j+1,by omega,by go_num,⟨_,aj.out.drew⟩,G.out.drew⟩
          case measure=>simp[intOf];omega
      ·have gk:(J==1)=false:=by simpa using am
       clear am;go_wp2_with fail
       first
        |go_region_law(first|(go_simp;go_at_call 172;refine(ue _ _ (by have:=aO.out;omega) _).mono ?_;rintro e aQ ⟨⟨Y,rfl⟩,rfl⟩))
        |fail
       all_goals
        cases Y;·go_wp2_with fail;go_ret;exact⟨fW _,G.out.drew⟩
        ·go_wp2_with fail;go_roundw;case rel=>exact⟨j+1,by omega,by go_num,⟨_,aj.out.drew⟩,G.out.drew⟩
         case measure=>simp[intOf];omega
     ·go_wp2_with fail;go_loopw[4] (fun i wr=>∃(j:Nat),j<=t.kids.length/\i=af ae j/\(∃J,Has wr w.heap.size #[af ae J,ah t.text,ag al t.leads.length ab,ag O t.kids.length ck])/\Below w.heap.size w wr) (fun i _=>t.kids.length-(intOf i).toNat);case atStart=>exact⟨0,aW _,rfl,⟨_,aj.out⟩,G.out⟩
      case round=>
       obtain⟨j,bC,rfl,⟨J,xb⟩,bl⟩:=hrel;clear ax aJ aB aG;obtain⟨⟨ax,aJ,aB,aG⟩,-⟩:=xb.four;have bL:=xb.lt;have aj:=aa xb;have G:=aa bl;clear xb bl;by_cases hj:j<t.kids.length
       ·obtain⟨b,off,bY,b0,bX,bZ,rfl,a8,aZ⟩:=ed bp.out bd.out j hj;obtain⟨d0,cc,cd,ce⟩:=aZ wr (aL.out.below G.out);have bq:=aa a8;have bN:(0:Int)<=(j:Int):=by omega
        have bO:(j:Int)<(t.kids.length:Int):=by omega
        have bE:=aa (show t.kids[j].size<=m by have:=dB (aK hj);omega);clear a8 aZ;go_wp2_with fail;refine(bv.out _ bE.out (sa bg.out _ (aK hj)) h _ (aL.out.below G.out) _ bq.out).mono ?_;rintro e aQ ⟨⟨Y,rfl⟩,aM⟩;have aT:=aa (G.out.trans (aM.mono G.out.size));have bz:=aa (aj.out.below aM);clear aM;cases Y;·go_wp2_with fail;go_ret;exact⟨fW _,aT.out⟩
        ·go_wp2_with fail;go_roundw;case rel=>exact⟨j+1,by omega,by go_num,⟨_,bz.out⟩,aT.out⟩
         case measure=>simp[intOf];omega
       ·go_wp2_with fail;go_ret;exact⟨fW _,G.out⟩
   ·go_wp2_with fail;go_ret;exact⟨fW _,aS.out⟩
end Go.Proofs.YtdplggpbgommnaaGreatDoor
