/- assign: augment. -/
import Derived.Test.YtdplggpbgommnaaGreatDoorG08
open Go renaming wpStill_nil->ig,wp_region_still_tail->ic
open Go.IntKind renaming i64->ae
open Go.Lib renaming hid->aa
open Go.Value renaming int->af,slice->ag
open Go.World renaming drew->q1
open Int renaming toNat_natCast->dy
open List renaming drop_succ_cons->gj,drop_zero->BU,foldl_append->dH,foldl_cons->dK,foldl_nil->fk,range_succ->dx,range->aw,replicate->aA,take_succ_cons->fl,take_zero->ie
open Nat renaming zero_le->aW
open Option.some renaming injEq->aC,inj->aU
set_option maxRecDepth 100000
set_option maxHeartbeats 8000000
namespace Go.Proofs.YtdplggpbgommnaaGreatDoor
open Go.RowKit
structure cV(h:Hp)(w0:World)(B sb:Nat)(c:List (List Int))(n gu gv gt go gs gf gd:Nat)(gi owner:List Int)(wr:World)(a:eB):Prop where
 qD:cB B h wr sb c n gu gv gt go ⟨a.u,a.v,gi,owner⟩
 rs:IR wr h w0.heap.size gs n a.c7
 rf:IR wr h w0.heap.size gf n a.src
 rd:BR wr h w0.heap.size gd n a.done
 ts:w0.heap.size<=gs
 tf:w0.heap.size<=gf
 td:w0.heap.size<=gd
 sf:gs≠gf
 sd:gs≠gd
 fd:gf≠gd
 ou:gu<w0.heap.size
 ov:gv<w0.heap.size
 ot:gt<w0.heap.size
 oo:go<w0.heap.size
 ob:sb<w0.heap.size
 tu:Tu (fun k=>k=gu\/k=gv\/k=gt\/k=go) w0 wr
section
variable {h:Hp} {w0:World} {B sb:Nat} {c:List (List Int)} {n gu gv gt go gs gf gd:Nat} {gi owner:List Int} {wr:World} {a:eB}
theorem cV.drewN(q:cV h w0 B sb c n gu gv gt go gs gf gd gi owner wr a)(k:Nat):cV h w0 B sb c n gu gv gt go gs gf gd gi owner (wr.drewN k) a:=
 {q with qD:=q.qD.drewN k,rs:=q.rs.drewN k,rf:=q.rf.drewN k,rd:=q.rd.drewN k,tu:=q.tu.drewN k}
theorem cV.drew(q:cV h w0 B sb c n gu gv gt go gs gf gd gi owner wr a):cV h w0 B sb c n gu gv gt go gs gf gd gi owner wr.drew a:=q.drewN 1
theorem cV.other(q:cV h w0 B sb c n gu gv gt go gs gf gd gi owner wr a){g:Nat}(G:w0.heap.size<=g)(hn:h g=none)(i:Nat)(v:Value):cB B h (wr.setCell ⟨g,i,none⟩ v) sb c n gu gv gt go ⟨a.u,a.v,gi,owner⟩:=
 q.qD.tu ((Tu.refl (fun k=>k=g) wr).set (.inl rfl) v) fun k e=>by subst e;have:=q.ou;have:=q.ov;have:=q.ot;have:=q.oo;have:=q.ob;refine⟨hn,?_,?_,?_,?_,?_⟩<;>omega
theorem cV.vy(q:cV h w0 B sb c n gu gv gt go gs gf gd gi owner wr a){i:Nat}(G:i<n)(x:Int):cV h w0 B sb c n gu gv gt go gs gf gd gi owner (wr.setCell ⟨gs,i,none⟩ (af ae x)) {a with c7:=a.c7.set i x}:=
 {q with qD:=q.other q.ts (Ow.free q.rs _ rfl) _ _,rs:=q.rs.put G x,rf:=q.rf.ne (fun e=>q.sf e.symm) _ _,rd:=q.rd.ne (fun e=>q.sd e.symm) _ _,tu:=q.tu.set (.inr q.ts) _}
theorem cV.Bo(q:cV h w0 B sb c n gu gv gt go gs gf gd gi owner wr a){i:Nat}(G:i<n)(x:Int):cV h w0 B sb c n gu gv gt go gs gf gd gi owner (wr.setCell ⟨gf,i,none⟩ (af ae x)) {a with src:=a.src.set i x}:=
 {q with qD:=q.other q.tf (Ow.free q.rf _ rfl) _ _,rs:=q.rs.ne q.sf _ _,rf:=q.rf.put G x,rd:=q.rd.ne (fun e=>q.fd e.symm) _ _,tu:=q.tu.set (.inr q.tf) _}
theorem cV.JW(q:cV h w0 B sb c n gu gv gt go gs gf gd gi owner wr a){i:Nat}(G:i<n)(x:Bool):cV h w0 B sb c n gu gv gt go gs gf gd gi owner (wr.setCell ⟨gd,i,none⟩ (.bool x)) {a with done:=a.done.set i x}:=
 {q with qD:=q.other q.td (Ow.free q.rd _ rfl) _ _,rs:=q.rs.ne q.sd _ _,rf:=q.rf.ne q.fd _ _,rd:=q.rd.put G x,tu:=q.tu.set (.inr q.td) _}
theorem cV.rE(q:cV h w0 B sb c n gu gv gt go gs gf gd gi owner wr a){i:Nat}(G:i<n)(x:Int):cV h w0 B sb c n gu gv gt go gs gf gd gi owner (wr.setCell ⟨gu,i,none⟩ (af ae x)) {a with u:=a.u.set i x}:=
 have:=q.ou;have:=q.ts;have:=q.tf;have:=q.td
 {q with qD:=q.qD.rE G x,rs:=q.rs.ne (by omega) _ _,rf:=q.rf.ne (by omega) _ _,rd:=q.rd.ne (by omega) _ _,tu:=q.tu.set (.inl (.inl rfl)) _}
theorem cV.uw(q:cV h w0 B sb c n gu gv gt go gs gf gd gi owner wr a){i:Nat}(G:i<n)(x:Int):cV h w0 B sb c n gu gv gt go gs gf gd gi owner (wr.setCell ⟨gv,i,none⟩ (af ae x)) {a with v:=a.v.set i x}:=
 have:=q.ov;have:=q.ts;have:=q.tf;have:=q.td
 {q with qD:=q.qD.uw G x,rs:=q.rs.ne (by omega) _ _,rf:=q.rf.ne (by omega) _ _,rd:=q.rd.ne (by omega) _ _,tu:=q.tu.set (.inl (.inr (.inl rfl))) _}
theorem cV.see(q:cV h w0 B sb c n gu gv gt go gs gf gd gi owner wr a):wr.cell? ⟨sb,1,none⟩=some (ag (some ⟨gu,0,none⟩) n n)/\wr.cell? ⟨sb,2,none⟩=some (ag (some ⟨gv,0,none⟩) n n)/\wr.cell? ⟨sb,3,none⟩=some (ag (some ⟨gt,0,none⟩) n n)/\wr.cell? ⟨sb,4,none⟩=some (ag (some ⟨go,0,none⟩) n n)/\sb<wr.heap.size/\gu<wr.heap.size/\gv<wr.heap.size/\go<wr.heap.size/\gs<wr.heap.size/\gf<wr.heap.size/\gd<wr.heap.size:=by obtain⟨ac,G,x,-⟩:=q.qD.box;exact⟨x.cl 1,x.cl 2,x.cl 3,x.cl 4,x.lt,q.qD.ru.lt,q.qD.rv.lt,q.qD.ro.lt,q.rs.lt,q.rf.lt,q.rd.lt⟩
theorem cV.row(q:cV h w0 B sb c n gu gv gt go gs gf gd gi owner wr a){r j:Nat}(hr:r<n)(hj:j<n):∃b o J b2 G c2,wr.cell? ⟨sb,0,none⟩=some (ag (some ⟨b,o,none⟩) n J)/\b<wr.heap.size/\wr.cell? ⟨b,o+r,none⟩=some (ag (some ⟨b2,G,none⟩) n c2)/\b2<wr.heap.size/\wr.cell? ⟨b2,G+j,none⟩=some (af ae (gm c r j))/\b≠gs/\b2≠gs:=by obtain⟨ac,J,x,hc⟩:=q.qD.cell;obtain⟨b,o,rfl,Y,b2,G,c2,O,ab,aj,ak,hd⟩:=hc r hr;have hf:=Ow.free q.rs gs rfl;exact⟨b,o,J,b2,G,c2,x.cl 0,Y,O,ab,(hd j hj).1,fun e=>aj (by rw[e];exact hf),fun e=>ak (by rw[e];exact hf)⟩
end
theorem JX(a:eB)(j:Nat): -1<=(aw j).foldl (e1 a) (-1)/\(aw j).foldl (e1 a) (-1)<j:=by
 induction j with
 |zero=>simp
 |succ j G=>rw[dx,dH,dK,fk];generalize(aw j).foldl (e1 a) (-1)=x at G;unfold e1;split<;>omega
theorem JY(owner:List Int)(J:Int)(n j:Nat)(hj:j<=n)(a:eB){b:eB}(G:(aw n).foldl (kZ owner J) (some a)=some b):∃O,(aw j).foldl (kZ owner J) (some a)=some O:=by
 induction n generalizing b with
 |zero=>
  obtain rfl:j=0:=by omega
  exact⟨_,G⟩
 |succ n Y=>
  by_cases e:j=n+1;·subst e;exact⟨_,G⟩
  ·rw[dx,dH,dK,fk]at G;cases hf:(aw n).foldl (kZ owner J) (some a)with
   |none=>rw[hf]at G;cases G
   |some a'=>exact Y (by omega) hf
theorem FB{B:Nat}{h:Hp}{w:World}{sb:Nat}{c:List (List Int)}{n gu gv gt go:Nat}{s:fD}(q:cB B h w sb c n gu gv gt go s)(row:Nat)(aO:row<n)(s':fD)(hs:lV c n row s=some s'):Calls Tryz.prog 143 #[.pointer (some ⟨sb,0,none⟩),af ae row] w fun e w'=>e= .returned (.tuple #[])/\cB B h w' sb c n gu gv gt go s'/\Tu (fun k=>k=gu\/k=gv\/k=gt\/k=go) w w':=by
 have bJ:=aa hs;have Q:=aa q;obtain⟨ac,cU,x,-⟩:=q.box;have bv:w.cell? ⟨sb,0,none⟩=some (ag ac n cU):=x.cl 0;have zs:=x.lt;have dF:=q.jw;have cK:=aa q.I;clear hs q x;have dB:=fP;have bO:Hid (St w.heap.size h w h w):=St.refl cK.out;go_in
 go_wp2_with(first
  |(at_make;refine jk fP rfl _ _ rfl bO.out ae ae _ _ n rfl rfl (by go_num) (by go_num) (by omega) ?_;intro w1 cm a3 dg;rw[j7]at a3;have aS:=aa a3;have bR:=aa cm;have bN:=(a3.lt w.heap.size rfl).2;clear cm a3 dg;clear bO)
  |(at_make;refine jk fP rfl _ _ rfl bR.out ae ae _ _ n rfl rfl (by go_num) (by go_num) (by omega) ?_;intro w2 cn a4 bX;rw[j7]at a4;have bC:=aa a4;have bB:=aa (aS.out.grown bX (fun _ _ e=>by cases e));have bT:=aa cn;have L2:=(a4.lt w1.heap.size rfl).2;clear cn a4 bX;clear bR aS)
  |(at_make;refine jk ry rfl _ _ rfl bT.out ae ae _ _ n rfl rfl (by go_num) (by go_num) (by omega) ?_;intro w3 co a5 bm;rw[j7]at a5;have bG:=aa a5;have aS:=aa (bB.out.grown bm (fun _ _ e=>by cases e));have bE:=aa (bC.out.grown bm (fun _ _ e=>by cases e));have bV:=aa co;have cF:=(a5.lt w2.heap.size rfl).2;clear co a5 bm;clear bT bB bC))
 have aQ:Hid (cV h w B sb c n gu gv gt go w.heap.size w1.heap.size w2.heap.size s.tq s.owner w3 ⟨s.u,s.v,cM n,cM n,aA n false⟩):=by
  have b:=bV.out.below;have cA:aV (cM n)=aA n (af ae 0):=by simp[aV,cM]
  have dA:dZ (aA n false)=aA n (.bool false):=by simp[dZ]
  have:=Q.out.ru.lt;have:=Q.out.rv.lt;have:=Q.out.rt.lt;have:=Q.out.ro.lt;refine{qD:=Q.out.below b,rs:= ?_,rf:= ?_,rd:= ?_,ts:=Nat.le_refl _,tf:=by omega,td:=by omega,sf:=by omega,sd:=by omega,fd:=by omega,ou:=Q.out.ru.lt,ov:=Q.out.rv.lt,ot:=Q.out.rt.lt,oo:=Q.out.ro.lt,ob:=zs,tu:=(Tu.refl _ _).below b};·unfold IR;rw[cA];exact aS.out
  ·unfold IR;rw[cA];exact bE.out
  ·unfold BR;rw[dA];exact bG.out
 have cQ:Hid (w.heap.size<w1.heap.size/\w1.heap.size<w2.heap.size):=⟨bN,L2⟩
 generalize dp:w.heap.size=gs at aQ⊢;generalize dn:w1.heap.size=gf at aQ⊢;generalize dm:w2.heap.size=gd at aQ⊢;clear aS bE bG bV dp dn dm bN L2 cF cQ bv;go_loopw[28] (fun j wr=>∃(J:Nat),J<=n/\j=af ae J/\cV h w B sb c n gu gv gt go gs gf gd s.tq s.owner wr ((aw J).foldl (kj c row) ⟨s.u,s.v,cM n,cM n,aA n false⟩)) (fun j _=>n-(intOf j).toNat);case atStart=>exact⟨0,aW _,rfl,aQ.out⟩
 case round=>
  obtain⟨j,aN,rfl,A⟩:=hrel;by_cases hj:j<n
  ·skip;generalize ha:(aw j).foldl (kj c row) ⟨s.u,s.v,cM n,cM n,aA n false⟩=a at A;obtain⟨aP,a8,cz,a9,k1,k2,k3,k4,k5,k6,k7⟩:=A.see;obtain⟨b,o,cX,b2,dt,c2,bv,k8,aJ,k9,bg,ci,cj⟩:=A.row aO hj;have aB:=A.qD.ru.get aO;have aM:=A.qD.rv.get hj;have cZ:=A.rs.fz hj;have c6:=A.rf.fz hj;have c8:=A.rs.get hj;have c9:=A.rf.get hj;have cD:=aa ((A.vy hj (oY c a.u a.v row j)).Bo hj row).drew;have aG:=aa ha;have ct:(0:Int)<=(j:Int):=by omega
   have cu:(j:Int)<(n:Int):=by omega
   have cv:(0:Int)<=(row:Int):=by omega
   have cw:(row:Int)<(n:Int):=by omega
   have ch:=A.sf;clear A ha;go_wp2_with fail;refine ic 29 (by kernel_rfl) (by kernel_rfl) ?_;simp only[fl,ie,gj,BU];change wpStill _ _ (q1 _) (fun a'=>wpList _ _ _ _ a' (q1 _)) _ _;repeat still_step
   refine ig ?_;go_wp2_with fail;go_roundw;case rel=>exact⟨j+1,by omega,by go_num,by rw[dx,dH,dK,fk,aG.out];exact cD.out⟩
   case measure=>simp[intOf];omega
  ·obtain rfl:n=j:=by omega
   have hs:=bJ.out;unfold lV at hs;generalize(aw n).foldl (kj c row) ⟨s.u,s.v,cM n,cM n,aA n false⟩=a0 at A hs;have a1:=aa A;have bL:=aa hs;clear A hs bJ aQ hj aN;go_wp2_with fail;go_loopg[] (n+1) (fun k wr=>∃a:eB,nU c n row s.tq s.owner k a=some s'/\cV h w B sb c n gu gv gt go gs gf gd s.tq s.owner wr a);case atStart=>exact⟨a0,bL.out,a1.out⟩
   case round=>
    obtain⟨a,ha,A⟩:=hrel;clear bL a1;cases gk with
    |zero=>simp[nU]at ha
    |succ k=>
     have a1:=aa A;have aG:=aa ha;clear A ha;go_wp2_with fail;go_loopw[9,66] (fun nx i wr'=>∃(J:Nat),J<=n/\i=af ae J/\nx=af ae ((aw J).foldl (e1 a) (-1))/\cV h w B sb c n gu gv gt go gs gf gd s.tq s.owner wr' a) (fun _ i _=>n-(intOf i).toNat);case atStart=>exact⟨0,aW _,rfl,rfl,a1.out⟩
     case round=>
      obtain⟨j,aN,rfl,rfl,A⟩:=hrel;have bp:=JX a j;by_cases hj:j<n
      ·skip;have ab:Hid ((aw (j+1)).foldl (e1 a) (-1)=e1 a ((aw j).foldl (e1 a) (-1)) j):=by unfold Hid;rw[dx,dH,dK,fk]
       generalize(aw j).foldl (e1 a) (-1)=x at bp ab;have d0:=A.rd.get hj;have aJ:=A.rs.get hj;obtain⟨-,-,-,-,-,-,-,-,k5,-,k7⟩:=A.see;have ct:(0:Int)<=(j:Int):=by omega
       have cu:(j:Int)<(n:Int):=by omega
       by_cases hd:a.done.getD j false=true
       ·have Y:Hid (e1 a x j=x):=by unfold Hid e1;rw[if_neg (by rintro⟨e,-⟩;rw[hd]at e;cases e)]
        rw[hd]at d0;have ao:=aa A;clear A hd;go_wp2_with fail;go_quiet(fail);go_wp2_with fail;go_roundw;case rel=>exact⟨j+1,by omega,by go_num,by rw[ab.out,Y.out],ao.out.drewN _⟩
        case measure=>simp[intOf];omega
       ·have O:a.done.getD j false=false:=by simpa using hd
        rw[O]at d0;by_cases hx:x<0
        ·have Y:Hid (e1 a x j=j):=by unfold Hid e1;rw[if_pos ⟨O,.inl hx⟩]
         have ao:=aa A;clear A hd O;go_wp2_with fail;go_quiet(fail);go_wp2_with fail;go_roundw;case rel=>exact⟨j+1,by omega,by go_num,by rw[ab.out,Y.out],ao.out.drewN _⟩
         case measure=>simp[intOf];omega
        ·obtain⟨m,rfl⟩:∃m:Nat,x=m:=⟨x.toNat,by omega⟩
         have bg:=A.rs.get (show m<n by omega);have cv:(0:Int)<=(m:Int):=by omega
         have cw:(m:Int)<(n:Int):=by omega
         by_cases hc:ge a.c7 j<ge a.c7 m
         ·have Y:Hid (e1 a m j=j):=by unfold Hid e1;rw[if_pos ⟨O,.inr hc⟩]
          have ao:=aa A;clear A hd O;go_wp2_with fail;go_quiet(fail);go_wp2_with fail;go_roundw;case rel=>exact⟨j+1,by omega,by go_num,by rw[ab.out,Y.out],ao.out.drewN _⟩
          case measure=>simp[intOf];omega
         ·have Y:Hid (e1 a m j=m):=by unfold Hid e1;rw[if_neg (by rintro⟨-,e|e⟩;exact hx e;exact hc e)]
          have ao:=aa A;clear A hd O;go_wp2_with fail;go_quiet(fail);go_wp2_with fail;go_roundw;case rel=>exact⟨j+1,by omega,by go_num,by rw[ab.out,Y.out],ao.out.drewN _⟩
          case measure=>simp[intOf];omega
      ·obtain rfl:n=j:=by omega
       have ha:=aG.out;simp only[nU]at ha;have bZ:p5 a n<n:=by have:=bp.2;unfold p5;omega
       change _=_ at ha;generalize cd:p5 a n=nx at ha bZ;have ce:(aw n).foldl (e1 a) (-1)=nx:=cd;rw[ce];split at ha;case isTrue=>cases ha
       case isFalse dh=>
        obtain⟨m,rfl⟩:∃m:Nat,nx=m:=⟨nx.toNat,by omega⟩
        have hm:m<n:=by omega
        simp only[dy]at ha;generalize b0:ge a.c7 m=ax at ha;split at ha;case h_1=>cases ha
        case h_2 a2 b9=>
        have aG:=aa ha;have bd:=aa b9;have aJ:=A.rs.get hm;rw[b0]at aJ;obtain⟨aP,-,-,-,k1,k2,-,-,k5,-,-⟩:=A.see;have aB:=A.qD.ru.get aO;have aM:=A.qD.ru.fz aO;have bz:=aa (A.rE aO (bS (ge a.u row+ax)));have ct:(0:Int)<=(m:Int):=by omega
        have cu:(m:Int)<(n:Int):=by omega
        have cv:(0:Int)<=(row:Int):=by omega
        have cw:(row:Int)<(n:Int):=by omega
        clear A ha b9 cd ce bp bZ dh aN hj b0;go_wp2_with fail;go_loopw[106] (fun i wr'=>∃(J:Nat) (aj:eB),J<=n/\i=af ae J/\(aw J).foldl (kZ s.owner ax) (some {a with u:=a.u.set row (bS (ge a.u row+ax))})=some aj/\cV h w B sb c n gu gv gt go gs gf gd s.tq s.owner wr' aj) (fun i _=>n-(intOf i).toNat);case atStart=>exact⟨0,_,aW _,rfl,rfl,bz.out⟩
        case round=>
         obtain⟨j,aj,aN,rfl,aX,A⟩:=hrel;clear aP aB aM k1 k2 k5 aJ;by_cases hj:j<n
         ·skip;obtain⟨cS,aY⟩:=JY _ _ n (j+1) hj _ bd.out;have ak:kZ s.owner ax (some aj) j=some cS:=by rw[dx,dH,dK,fk,aX]at aY;exact aY
          have bH:=aa aY;have d0:=A.rd.get hj;obtain⟨aP,a8,cz,a9,k1,k2,k3,k4,k5,k6,k7⟩:=A.see;have du:(0:Int)<=(j:Int):=by omega
          have dv:(j:Int)<(n:Int):=by omega
          have ch:=A.qD.bu;have dD:=A.qD.bv;have dE:=A.qD.uv;by_cases hd:aj.done.getD j false=true
          ·rw[hd]at d0;unfold kZ at ak;simp only[if_pos hd]at ak;split at ak;case isFalse=>cases ak
           case isTrue di=>
            have cg:=A.qD.ru.len;simp only at cg;obtain⟨r,hr⟩:∃r:Nat,ge s.owner j=r:=⟨(ge s.owner j).toNat,by omega⟩
            have aZ:r<n:=by omega
            rw[hr]at ak;simp only[dy,aC]at ak;subst ak;have aL:=A.qD.ro.get hj;simp only at aL;rw[hr]at aL;have aB:=A.qD.ru.get aZ;have aM:=A.qD.ru.fz aZ;have cY:=A.qD.rv.get hj;have dC:=A.qD.rv.fz hj;simp only at aB cY;have dO:(0:Int)<=(r:Int):=by omega
            have dP:(r:Int)<(n:Int):=by omega
            have G:=aa ((A.rE aZ (bS (ge aj.u r+ax))).uw hj (bS (ge aj.v j-ax))).drew;clear A hd cg di hr aX aY;go_wp2_with fail;refine ic 16 (by kernel_rfl) (by kernel_rfl) ?_;simp only[fl,ie,gj,BU];change wpStill _ _ (q1 _) (fun a'=>wpList _ _ _ _ a' (q1 _)) _ _;repeat still_step
            refine ig ?_;go_wp2_with fail;go_roundw;case rel=>exact⟨j+1,_,by omega,by go_num,bH.out,G.out⟩
            case measure=>simp[intOf];omega
          ·have O:aj.done.getD j false=false:=by simpa using hd
           rw[O]at d0;unfold kZ at ak;simp only[if_neg hd,aC]at ak;subst ak;have aB:=A.rs.get hj;have aM:=A.rs.fz hj;have G:=aa (A.vy hj (bS (ge aj.c7 j-ax)));clear A hd O aX aY;go_wp2_with fail;go_roundw;case rel=>exact⟨j+1,_,by omega,by go_num,bH.out,G.out⟩
           case measure=>simp[intOf];omega
         ·obtain rfl:n=j:=by omega
          have cc:aj=a2:=aU (aX.symm.trans bd.out);rw[cc]at A;have am:=aG.out;clear aX cc bd bz aG aN hj;have G:=aa (A.JW hm true);have aJ:=A.rd.get hm;have bg:=A.rd.fz hm;obtain⟨aP,a8,-,a9,k1,k2,k3,k4,k5,k6,k7⟩:=A.see;have aL:=A.qD.ro.get hm;simp only at aL;have ci:sb≠gd:=by have:=A.ob;have:=A.td;omega
          have cj:go≠gd:=by have:=A.oo;have:=A.td;omega
          clear A;by_cases bq:ge s.owner m<0;·rw[if_pos bq,Option.map_eq_some_iff]at am;obtain⟨p,hp,rfl⟩:=am;have cE:=aa hp;clear hp;go_wp2_with fail;refine(Fp row aO a2.src (by have:=G.out.ob;have:=G.out.tf;omega) (by have:=G.out.ot;have:=G.out.tf;omega) (by have:=G.out.oo;have:=G.out.tf;omega) (n+1) _ _ G.out.qD G.out.rf (m:Int) p.1 p.2 (by exact cE.out)).mono ?_;rintro e dT ⟨rfl,cl,cq⟩;have cN:=aa (G.out.tu.trans (cq.mono fun k dr=>by rcases dr with rfl|rfl;exact .inr (.inr (.inl rfl));exact .inr (.inr (.inr rfl))));have cG:=aa cl;clear cl cq;go_wp2_with fail;refine bodyPost_ret (results_none rfl _ _ _) rfl ?_;exact⟨rfl,cG.out,cN.out⟩
          ·rw[if_neg bq]at am;split at am;case isTrue=>cases am
           case isFalse aZ=>
            obtain⟨r,hr⟩:∃r:Nat,ge s.owner m=r:=⟨(ge s.owner m).toNat,by omega⟩
            have cf:r<n:=by omega
            rw[hr]at am aL;have bI:=aa am;have dQ:(0:Int)<=(r:Int):=by omega
            have dR:(r:Int)<(n:Int):=by omega
            generalize bY:({a2 with done:=a2.done.set m true}:eB)=aT at bI;have bA:Hid (cV h w B sb c n gu gv gt go gs gf gd s.tq s.owner (wr.setCell ⟨gd,m,none⟩ (.bool true)) aT):=by rw[<-bY];exact G.out
            clear bY G am bq aZ hr;go_wp2_with fail;go_loopw[165] (fun i dw=>∃(J:Nat),J<=n/\i=af ae J/\cV h w B sb c n gu gv gt go gs gf gd s.tq s.owner dw ((aw J).foldl (iQ c r) aT)) (fun i _=>n-(intOf i).toNat);case atStart=>exact⟨0,aW _,rfl,bA.out⟩
            case round=>
             obtain⟨j,aN,rfl,A⟩:=hrel;clear bA aP a8 a9 aL aJ bg;by_cases hj:j<n
             ·have ab:Hid ((aw (j+1)).foldl (iQ c r) aT=iQ c r ((aw j).foldl (iQ c r) aT) j):=by unfold Hid;rw[dx,dH,dK,fk]
              generalize(aw j).foldl (iQ c r) aT=a at A ab;obtain⟨aP,a8,cz,a9,k1,k2,k3,k4,k5,k6,k7⟩:=A.see;obtain⟨b,o,cX,b2,dt,c2,bv,k8,dG,k9,dN,ci,cj⟩:=A.row cf hj;have aB:=A.qD.ru.get cf;have aM:=A.qD.rv.get hj;have cZ:=A.rs.fz hj;have c6:=A.rf.fz hj;have c8:=A.rs.get hj;have c9:=A.rf.get hj;have d0:=A.rd.get hj;simp only at aB aM;have du:(0:Int)<=(j:Int):=by omega
              have dv:(j:Int)<(n:Int):=by omega
              have ch:=A.sf;have ba:=aa A;clear A;by_cases hd:a.done.getD j false=true
              ·have Y:Hid (iQ c r a j=a):=by unfold Hid iQ;rw[if_neg (by rintro⟨e,-⟩;rw[hd]at e;cases e)]
               rw[hd]at d0;clear hd;go_wp2_with fail;go_quiet(fail);go_wp2_with fail;go_roundw;case rel=>exact⟨j+1,by omega,by go_num,by rw[ab.out,Y.out];exact ba.out.drewN _⟩
               case measure=>simp[intOf];omega
              ·have O:a.done.getD j false=false:=by simpa using hd
               rw[O]at d0;by_cases hc:oY c a.u a.v r j<ge a.c7 j
               ·have Y:Hid (iQ c r a j={a with c7:=a.c7.set j (oY c a.u a.v r j),src:=a.src.set j r}):=by unfold Hid iQ;rw[if_pos ⟨O,hc⟩]
                have dk:wrap64 (wrap64 (gm c r j-ge a.u r)-ge a.v j)<ge a.c7 j:=hc;clear hd O hc;go_wp2_with fail;go_quiet(fail);go_wp2_with fail;go_roundw;case rel=>exact⟨j+1,by omega,by go_num,by rw[ab.out,Y.out];exact((ba.out.drewN _).vy hj _).Bo hj _⟩
                case measure=>simp[intOf];omega
               ·have Y:Hid (iQ c r a j=a):=by unfold Hid iQ;rw[if_neg (by rintro⟨-,e⟩;exact hc e)]
                have dk:¬wrap64 (wrap64 (gm c r j-ge a.u r)-ge a.v j)<ge a.c7 j:=hc;clear hd O hc;go_wp2_with fail;go_quiet(fail);go_wp2_with fail;go_roundw;case rel=>exact⟨j+1,by omega,by go_num,by rw[ab.out,Y.out];exact ba.out.drewN _⟩
                case measure=>simp[intOf];omega
             ·obtain rfl:n=j:=by omega
              have cC:=aa A;clear A;go_wp2_with fail;go_roundg k;case measure=>omega
              case rel=>exact⟨_,bI.out,cC.out⟩
end Go.Proofs.YtdplggpbgommnaaGreatDoor
