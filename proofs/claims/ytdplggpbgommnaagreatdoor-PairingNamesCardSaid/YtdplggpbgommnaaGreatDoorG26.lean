/- semvcsref02: leads, Printable, limits, Depth: they return something. -/
import Derived.Test.YtdplggpbgommnaaGreatDoorG25
open Go.Addr.mk renaming injEq->cx
open Go.IntKind renaming i64->ae
open Go.Lib renaming hid->aa
open Go.Proofs.Tryz renaming prog->ai
open Go.RowKit.Below renaming refl->aD
open Go.Value renaming int->af,slice->ag,string->ah
open Go.Value.agg renaming injEq->oG
open Go.Value.slice renaming injEq->bU
open List renaming getElem_mem->aK
open List.cons renaming injEq->ii
open Nat renaming le_refl->kI,zero_le->aW
open Option.some renaming injEq->aC
set_option maxRecDepth 100000
set_option maxHeartbeats 8000000
namespace Go.Proofs.YtdplggpbgommnaaGreatDoor
open Go.RowKit
theorem Jb(m:Nat):∀(t:Tree) (_:t.size<=m) (h:Hp) (w:World) (_:ao h w) (v:Value) (_:aP h v t),Calls ai 84 #[v] w fun e w'=>nS e/\Below w.heap.size w w':=by
 induction m with
 |zero=>intro t hn;have:=t.size_eq;omega
 |succ m aM=>
  intro t a1 h w ax v aJ;have aj:=aa ax;have aT:=aa aM;have hz:=Tree.size_eq t;rw[hz]at a1;obtain⟨al,O,J,ck,ys,rfl,bm,bq,bp,aB,aG,he⟩:=aJ.open;have a2:=aa aB;have aQ:=aa aG;have aO:=aa he;clear aM aJ hz ax aG aB he;go_in;have ak:Hid (Has (w.alloc (.cells #[af ae t.kind,ah t.text,ag al t.leads.length O,ag J t.kids.length ck] 26)) w.heap.size #[af ae t.kind,ah t.text,ag al t.leads.length O,ag J t.kids.length ck]):=Has.new _ _ _;have B0:Hid (Below w.heap.size w (w.alloc (.cells #[af ae t.kind,ah t.text,ag al t.leads.length O,ag J t.kids.length ck] 26))):=(aD _ _).alloc (kI _) _;generalize t.kind=k at ak B0⊢;go_wp2_with fail;all_goals try subst_vars
  all_goals try(go_ret;exact⟨fW _,B0.out⟩)
  all_goals
   go_loopw[4] (fun i wr=>∃(j:Nat),j<=t.kids.length/\i=af ae j/\(∃aN,Has wr w.heap.size #[af ae aN,ah t.text,ag al t.leads.length O,ag J t.kids.length ck])/\Below w.heap.size w wr) (fun i _=>t.kids.length-(intOf i).toNat);case atStart=>exact⟨0,aW _,rfl,⟨_,ak.out⟩,B0.out⟩
   case round=>
    obtain⟨j,bg,rfl,⟨aN,xb⟩,bl⟩:=hrel;obtain⟨⟨bC,bE,bG,bH⟩,-⟩:=xb.four;have bv:=xb.lt;have aX:=aa xb;have G:=aa bl;clear xb bl;by_cases hj:j<t.kids.length
    ·obtain⟨b,off,a4,a8,a3,a5,rfl,aL,am⟩:=ed aQ.out aO.out j hj;obtain⟨d0,a9,ba,bd⟩:=am wr (aj.out.below G.out);have aS:=aa aL;have bz:(0:Int)<=(j:Int):=by omega
     have bA:(j:Int)<(t.kids.length:Int):=by omega
     have aZ:=aa (show t.kids[j].size<=m by have:=dB (aK hj);omega);clear aL am;go_wp2_with fail;refine(aT.out _ aZ.out h _ (aj.out.below G.out) _ aS.out).mono ?_;rintro e bB ⟨⟨aY,rfl⟩,Y⟩;have ab:=aa (G.out.trans (Y.mono G.out.size));have aV:=aa (aX.out.below Y);clear Y;cases aY;·go_wp2_with fail;go_ret;exact⟨fW _,ab.out⟩
     ·go_wp2_with fail;go_roundw;case rel=>exact⟨j+1,by omega,by go_num,⟨_,aV.out⟩,ab.out⟩
      case measure=>simp[intOf];omega
    ·go_wp2_with fail;go_ret;exact⟨fW _,G.out⟩
theorem Jc(m:Nat):∀(t:Tree) (_:t.size<=m) (_:t.lb) (h:Hp) (w:World) (_:ao h w) (v:Value) (_:aP h v t),Calls ai 122 #[v] w fun e w'=>nS e/\Below w.heap.size w w':=by
 induction m with
 |zero=>intro t hn;have:=t.size_eq;omega
 |succ m a9=>
  intro t bH aN h w a1 v a5;have aL:=aa a1;have bv:=aa a9;have hz:=Tree.size_eq t;have ba:=aa ((Tree.og t).1 aN).1.2;have bg:=aa ((Tree.og t).1 aN).2;clear aN;rw[hz]at bH;obtain⟨al,ab,O,ck,ys,rfl,cf,cg,bG,a3,a4,he⟩:=a5.open;have bm:=aa a3;have bp:=aa a4;have bd:=aa he;clear a9 a5 hz a1 a4 a3 he;go_in;have ak:Hid (Has (w.alloc (.cells #[af ae t.kind,ah t.text,ag al t.leads.length ab,ag O t.kids.length ck] 26)) w.heap.size #[af ae t.kind,ah t.text,ag al t.leads.length ab,ag O t.kids.length ck]):=Has.new _ _ _;have B0:Hid (Below w.heap.size w (w.alloc (.cells #[af ae t.kind,ah t.text,ag al t.leads.length ab,ag O t.kids.length ck] 26))):=(aD _ _).alloc (kI _) _;go_wp2_with fail;generalize w.alloc (.cells #[af ae t.kind,ah t.text,ag al t.leads.length ab,ag O t.kids.length ck] 26)=w0 at ak B0⊢;obtain⟨⟨ax,aJ,aB,aG⟩,-⟩:=ak.out.four;have bJ:=ak.out.lt
  go_region_held3(fun w'=>w'.cell? ⟨w.heap.size,0,none⟩=some (af ae t.kind)/\w'.cell? ⟨w.heap.size,2,none⟩=some (ag al t.leads.length ab)/\w'.cell? ⟨w.heap.size,3,none⟩=some (ag O t.kids.length ck)) (first|(go_keep;done)|exact⟨ax,aB,aG⟩) (first
   |(go_at_call 109;refine(Lq t.kind t.kids.length bG _).mono ?_;rintro e w1 ⟨rfl,bI⟩;obtain rfl:=bI.symm))
  all_goals
   have aV:Hid (Has w0.drew _ _):=ak.out.drew;have aS:Hid (Below w.heap.size w w0.drew):=B0.out.drew;clear ak B0 ax aJ aB aG bJ;obtain⟨⟨bR,bS,bT,bV⟩,-⟩:=aV.out.four;generalize b9 t.kind t.kids.length=z;obtain⟨bA,aX⟩:∃b,((t.leads.length:Int)!=z)=b:=⟨_,rfl⟩
   rw[aX];clear aX;cases bA
   ·go_wp2_with fail;go_loopw[3] (fun i wr=>∃(j:Nat),j<=t.leads.length/\i=af ae j/\(∃J,Has wr w.heap.size #[af ae J,ah t.text,ag al t.leads.length ab,ag O t.kids.length ck])/\Below w.heap.size w wr) (fun i _=>t.leads.length-(intOf i).toNat);case atStart=>exact⟨0,aW _,rfl,⟨_,aV.out⟩,aS.out⟩
    case round=>
     obtain⟨j,bC,rfl,⟨J,xb⟩,bl⟩:=hrel;clear bR bS bT bV;obtain⟨⟨ax,aJ,aB,aG⟩,-⟩:=xb.four;have bL:=xb.lt;have aj:=aa xb;have G:=aa bl;clear xb bl;by_cases hj:j<t.leads.length
     ·obtain⟨b,off,rfl,-,aY⟩:=bm.out.cells (aL.out.below G.out) (by omega);have d0:=aY j (ah t.leads[j]) (by simp[hj]);have bN:(0:Int)<=(j:Int):=by omega
      have bO:(j:Int)<(t.leads.length:Int):=by omega
      have aO:=aa (ba.out _ (aK hj));clear aY;by_cases am:J=1
      ·have gk:(J==1)=true:=by simpa using am
       by_cases a2:j=2
       ·have bB:((j:Int)==2)=true:=by simp;omega
        clear am a2;go_wp2_with fail
        first
         |go_region_law(first|(go_simp;go_at_call 172;refine(ue _ _ (by have:=aO.out;omega) _).mono ?_;rintro e aQ ⟨⟨Y,rfl⟩,rfl⟩))
         |fail
        all_goals
         cases Y;·go_wp2_with fail;go_ret;exact⟨fW _,G.out.drew⟩
         ·go_wp2_with fail;go_roundw;case rel=>exact⟨j+1,by omega,by go_num,⟨_,aj.out.drew⟩,G.out.drew⟩
          case measure=>simp[intOf];omega
       ·have bB:((j:Int)==2)=false:=by rw[beq_eq_false_iff_ne];omega
        clear am a2;go_wp2_with fail
        first
         |go_region_law(first|(go_simp;go_at_call 172;refine(ue _ _ (by have:=aO.out;omega) _).mono ?_;rintro e aQ ⟨⟨Y,rfl⟩,rfl⟩))
         |fail
        all_goals
         cases Y;·go_wp2_with fail;go_ret;exact⟨fW _,G.out.drew⟩
         ·go_wp2_with fail;go_roundw;case rel=>exact⟨j+1,by omega,by go_num,⟨_,aj.out.drew⟩,G.out.drew⟩
          case measure=>simp[intOf];omega
      ·have gk:(J==1)=false:=by simpa using am
       clear am;go_wp2_with fail
       first
        |go_region_law(first|(go_simp;go_at_call 172;refine(ue _ _ (by have:=aO.out;omega) _).mono ?_;rintro e aQ ⟨⟨Y,rfl⟩,rfl⟩))
        |fail
       all_goals
        cases Y;·go_wp2_with fail;go_ret;exact⟨fW _,G.out.drew⟩
        ·go_wp2_with fail;go_roundw;case rel=>exact⟨j+1,by omega,by go_num,⟨_,aj.out.drew⟩,G.out.drew⟩
         case measure=>simp[intOf];omega
     ·go_wp2_with fail;go_loopw[4] (fun i wr=>∃(j:Nat),j<=t.kids.length/\i=af ae j/\(∃J,Has wr w.heap.size #[af ae J,ah t.text,ag al t.leads.length ab,ag O t.kids.length ck])/\Below w.heap.size w wr) (fun i _=>t.kids.length-(intOf i).toNat);case atStart=>exact⟨0,aW _,rfl,⟨_,aj.out⟩,G.out⟩
      case round=>
       obtain⟨j,bC,rfl,⟨J,xb⟩,bl⟩:=hrel;clear ax aJ aB aG;obtain⟨⟨ax,aJ,aB,aG⟩,-⟩:=xb.four;have bL:=xb.lt;have aj:=aa xb;have G:=aa bl;clear xb bl;by_cases hj:j<t.kids.length
       ·obtain⟨b,off,bY,b0,bX,bZ,rfl,a8,aZ⟩:=ed bp.out bd.out j hj;obtain⟨d0,cc,cd,ce⟩:=aZ wr (aL.out.below G.out);have bq:=aa a8;have bN:(0:Int)<=(j:Int):=by omega
        have bO:(j:Int)<(t.kids.length:Int):=by omega
        have bE:=aa (show t.kids[j].size<=m by have:=dB (aK hj);omega);clear a8 aZ;go_wp2_with fail;refine(bv.out _ bE.out (sa bg.out _ (aK hj)) h _ (aL.out.below G.out) _ bq.out).mono ?_;rintro e aQ ⟨⟨Y,rfl⟩,aM⟩;have aT:=aa (G.out.trans (aM.mono G.out.size));have bz:=aa (aj.out.below aM);clear aM;cases Y;·go_wp2_with fail;go_ret;exact⟨fW _,aT.out⟩
        ·go_wp2_with fail;go_roundw;case rel=>exact⟨j+1,by omega,by go_num,⟨_,bz.out⟩,aT.out⟩
         case measure=>simp[intOf];omega
       ·go_wp2_with fail;go_ret;exact⟨fW _,G.out⟩
   ·go_wp2_with fail;go_ret;exact⟨fW _,aS.out⟩
def Bf(ts:List Tree)(e:Ending):Prop:=∃b,e= .returned (.bool b)/\(b=true->rU ts)
theorem Bg(ts:List Tree):Bf ts (.returned (.bool false)):=⟨false,rfl,fun h=>by cases h⟩
theorem Bh{s u:ByteArray}(h:(s.toList==u.toList)=false):s≠u:=fun e=>by subst e;simp at h
theorem Jp(h:Hp)(w:World)(a8:ao h w)(v:Value)(ts:List Tree)(hv:hQ h v ts):Calls ai 18 #[v] w fun e w'=>Bf ts e/\Below w.heap.size w w':=by
 obtain⟨cs,aP,ax⟩:=hv;obtain⟨a,bT,rfl,cn⟩:=aP.shape;have aZ:=aa aP;have aV:=aa ax;have Y:=aa a8;clear aP ax a8;go_in;go_wp2_with fail;go_loopw[3] (fun i wr=>∃(n:Nat),n<=ts.length/\i=af ae n/\jz ts n/\(∀a,a<n->jz (ts.getD a default).kids (ts.getD a default).kids.length)/\Below w.heap.size w wr) (fun i _=>ts.length-(intOf i).toNat);case atStart=>exact⟨0,aW _,rfl,zQ _,fun a h=>absurd h (by omega),aD _ _⟩
 case round=>
  obtain⟨n,hn,rfl,hd,a9,bl⟩:=hrel;have aT:=aa hd;have aY:=aa a9;have G:=aa bl;clear hd a9 bl;by_cases aM:n<ts.length
  ·obtain⟨b,off,al,b0,bE,ck,rfl,bg,a2⟩:=ed aZ.out aV.out n aM;have aB:=aa fun w' (aO:ao h w')=>a2 w' aO;obtain⟨bL,b9,bG,bV,ys,e,ci,cm,cj,bA,bd,he⟩:=bg.open;simp only[oG,Array.mk.injEq,ii,bU,and_true,true_and]at e;obtain⟨⟨rfl,rfl⟩,rfl,rfl⟩:=e;have a1:=aa bd;have aX:=aa he;have cu:(0:Int)<=(n:Int):=by omega
   have cv:(n:Int)<(ts.length:Int):=by omega
   clear bg a2 bA bd he;obtain⟨ak,O⟩:∃ak,ak=wr:=⟨_,rfl⟩
   rw[<-O]at G⊢;clear O;go_wp2_with fail;go_loopw[4] (fun i wr=>∃(k:Nat),k<=n/\i=af ae k/\nZ ts n k/\Below w.heap.size w wr) (fun i _=>n-(intOf i).toNat);case atStart=>exact⟨0,aW _,rfl,fun b h=>absurd h (by omega),G.out⟩
   case round=>
    obtain⟨k,cl,rfl,J,bl⟩:=hrel;have aG:=aa J;clear G;have G:=aa bl;clear J bl;by_cases bz:k<n
    ·obtain⟨b2,co,bN,cc,bH,bX,e,-,a3⟩:=ed aZ.out aV.out k (by omega);simp only[aC,cx,and_true]at e;obtain⟨aJ,aL⟩:=e;subst aJ;subst aL;obtain⟨d0,J,ab,aj⟩:=aB.out wr (Y.out.below G.out);obtain⟨bv,c1,c2,c3⟩:=a3 wr (Y.out.below G.out);have w1:(0:Int)<=(k:Int):=by omega
     have w2:(k:Int)<(ts.length:Int):=by omega
     have w3:(k:Int)<(n:Int):=by omega
     obtain⟨tb,aN⟩:∃b,(ts[n].text.toList==(ts[k]'(by omega)).text.toList)=b:=⟨_,rfl⟩
     clear a3;cases tb
     ·have am:=aa (aG.out.next (by rw[getD_at aM,getD_at (by omega)];exact Bh aN));go_wp2_with fail
      first
       |go_region_law(fail)
       |fail
      all_goals
       go_wp2_with fail;go_roundw;case rel=>exact⟨k+1,by omega,by go_num,am.out,G.out.drewN _⟩
       case measure=>simp[intOf];omega
     ·go_wp2_with fail
      first
       |go_region_law(fail)
       |fail
      all_goals
       go_wp2_with fail;go_ret;exact⟨Bg _,G.out.drewN _⟩
    ·obtain⟨d0,J,ab,aj⟩:=aB.out wr (Y.out.below G.out)
     have bm:Hid (nZ ts n n):=by
      have:k=n:=by omega
      subst this;exact aG.out
     have w3:¬(k:Int)<(n:Int):=by omega
     have cw:decide ((k:Int)<(n:Int))=false:=by simp;omega
     have cz:decide (k<n)=false:=by simp;omega
     clear aG;obtain⟨cA,O⟩:∃ak,ak=wr:=⟨_,rfl⟩
     rw[<-O]at G d0 J ab aj⊢;clear O;go_wp2_with fail;go_loopw[5] (fun i wr=>∃(d:Nat),d<=ts[n].kids.length/\i=af ae d/\jz ts[n].kids d/\Below w.heap.size w wr) (fun i _=>ts[n].kids.length-(intOf i).toNat);case atStart=>exact⟨0,aW _,rfl,zQ _,G.out⟩
     case round=>
      obtain⟨d,cg,rfl,dd,bl⟩:=hrel;have aQ:=aa dd;clear G d0 J ab aj;have G:=aa bl;clear dd bl;obtain⟨d0,J,ab,aj⟩:=aB.out wr (Y.out.below G.out);by_cases ba:d<ts[n].kids.length
      ·have cC:(0:Int)<=(d:Int):=by omega
       have bB:(d:Int)<(ts[n].kids.length:Int):=by omega
       obtain⟨b3,cq,bO,cd,bI,bY,rfl,-,a4⟩:=ed a1.out aX.out d ba;have bp:=aa fun w' (aO:ao h w')=>a4 w' aO;clear a4;obtain⟨cB,O⟩:∃ak,ak=wr:=⟨_,rfl⟩
       rw[<-O]at G d0 J ab aj⊢;clear O;go_wp2_with fail;go_loopw[6] (fun i wr=>∃(k:Nat),k<=d/\i=af ae k/\nZ ts[n].kids d k/\Below w.heap.size w wr) (fun i _=>d-(intOf i).toNat);case atStart=>exact⟨0,aW _,rfl,fun b h=>absurd h (by omega),G.out⟩
       case round=>
        obtain⟨k,ch,rfl,ax,bl⟩:=hrel;have aS:=aa ax;clear G d0 J ab aj;have G:=aa bl;clear ax bl;obtain⟨d0,J,ab,aj⟩:=aB.out wr (Y.out.below G.out);by_cases bz:k<d
        ·obtain⟨bS,ct,bR,ce,bJ,bZ,e,-,a5⟩:=ed a1.out aX.out k (by omega);simp only[aC,cx,and_true]at e;obtain⟨aJ,aL⟩:=e;subst aJ;subst aL;obtain⟨g0,g1,g2,cf⟩:=bp.out wr (Y.out.below G.out);obtain⟨bv,c1,c2,c3⟩:=a5 wr (Y.out.below G.out);have cF:(0:Int)<=(k:Int):=by omega
         have cG:(k:Int)<(ts[n].kids.length:Int):=by omega
         have bC:(k:Int)<(d:Int):=by omega
         obtain⟨tb,aN⟩:∃b,(ts[n].kids[d].text.toList==(ts[n].kids[k]'(by omega)).text.toList)=b:=⟨_,rfl⟩
         clear a5;cases tb
         ·have am:=aa (aS.out.next (by rw[getD_at ba,getD_at (by omega)];exact Bh aN));go_wp2_with fail
          first
           |go_region_law(fail)
           |fail
          all_goals
           go_wp2_with fail;go_roundw;case rel=>exact⟨k+1,by omega,by go_num,am.out,G.out.drewN _⟩
           case measure=>simp[intOf];omega
         ·go_wp2_with fail
          first
           |go_region_law(fail)
           |fail
          all_goals
           go_wp2_with fail;go_ret;exact⟨Bg _,G.out.drewN _⟩
        ·have am:Hid (jz ts[n].kids (d+1)):=aQ.out.next (by
          have:k=d:=by omega
          subst this;exact aS.out)
         have bC:¬(k:Int)<(d:Int):=by omega
         have cK:decide ((k:Int)<(d:Int))=false:=by simp;omega
         have cM:decide (k<d)=false:=by simp;omega
         go_wp2_with fail;go_roundw;case rel=>exact⟨d+1,by omega,by go_num,am.out,G.out⟩
         case measure=>simp[intOf];omega
      ·have bq:Hid (jz ts[n].kids ts[n].kids.length):=by
        have:d=ts[n].kids.length:=by omega
        rw[<-this];exact aQ.out
       have bB:¬(d:Int)<(ts[n].kids.length:Int):=by omega
       have cD:decide ((d:Int)<(ts[n].kids.length:Int))=false:=by simp;omega
       have cE:decide (d<ts[n].kids.length)=false:=by simp;omega
       go_wp2_with fail;go_roundw
       case rel=>exact⟨n+1,by omega,by go_num,aT.out.next bm.out,fun a ha=>by
        rcases Nat.lt_or_ge a n with q|q;·exact aY.out a q
        ·have:a=n:=by omega
         subst this;rw[getD_at aM];exact bq.out,G.out⟩
       case measure=>simp[intOf];omega
  ·obtain rfl:n=ts.length:=by omega
   go_wp2_with fail;go_ret;exact⟨⟨true,rfl,fun _=>G7 aT.out aY.out⟩,G.out⟩
end Go.Proofs.YtdplggpbgommnaaGreatDoor
