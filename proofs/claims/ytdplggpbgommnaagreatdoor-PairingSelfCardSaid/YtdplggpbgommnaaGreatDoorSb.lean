/- assign: augment. -/
import Derived.Test.YtdplggpbgommnaaGreatDoorG06
open Go renaming wpStill_nil→ig,wp_region_still_tail→ic
open Go.IntKind renaming i64→ae
open Go.Lib renaming hid→aa
open Go.Value renaming int→af,slice→ag
open Go.World renaming drew→dd
open Int renaming toNat_natCast→dy
open List renaming drop_succ_cons→gj,drop_zero→fm,foldl_append→dH,foldl_cons→dK,foldl_nil→fk,range_succ→dx,range→aw,replicate→aA,take_succ_cons→fl,take_zero→ie
open Nat renaming zero_le→aW
open Option.some renaming injEq→aC,inj→aU
set_option maxRecDepth 100000
set_option maxHeartbeats 8000000
namespace Go.Proofs.YtdplggpbgommnaaGreatDoor
open Go.RowKit
structure cV(h:Hp)(w0:World)(B sb:Nat)(c:List (List Int))(n gu gv gt go gs gf gd:Nat)(gi owner:List Int)(wr:World)(a:eB):Prop where
 da:cB B h wr sb c n gu gv gt go ⟨a.u,a.v,gi,owner⟩
 rs:IR wr h w0.heap.size gs n a.c7
 rf:IR wr h w0.heap.size gf n a.src
 rd:BR wr h w0.heap.size gd n a.done
 ts:w0.heap.size≤gs
 tf:w0.heap.size≤gf
 td:w0.heap.size≤gd
 sf:gs≠gf
 sd:gs≠gd
 fd:gf≠gd
 ou:gu<w0.heap.size
 ov:gv<w0.heap.size
 ot:gt<w0.heap.size
 oo:go<w0.heap.size
 ob:sb<w0.heap.size
 tu:Tu (fun k=>k=gu∨k=gv∨k=gt∨k=go) w0 wr
section
variable {h:Hp} {w0:World} {B sb:Nat} {c:List (List Int)} {n gu gv gt go gs gf gd:Nat} {gi owner:List Int} {wr:World} {a:eB}
theorem cV.drewN(q:cV h w0 B sb c n gu gv gt go gs gf gd gi owner wr a)(k:Nat):cV h w0 B sb c n gu gv gt go gs gf gd gi owner (wr.drewN k) a:=
 {q with da:=q.da.drewN k,rs:=q.rs.drewN k,rf:=q.rf.drewN k,rd:=q.rd.drewN k,tu:=q.tu.drewN k}
theorem cV.drew(q:cV h w0 B sb c n gu gv gt go gs gf gd gi owner wr a):cV h w0 B sb c n gu gv gt go gs gf gd gi owner wr.drew a:=q.drewN 1
theorem cV.other(q:cV h w0 B sb c n gu gv gt go gs gf gd gi owner wr a){g:Nat}(E:w0.heap.size≤g)(A:h g=none)(i:Nat)(v:Value):cB B h (wr.setCell ⟨g,i,none⟩ v) sb c n gu gv gt go ⟨a.u,a.v,gi,owner⟩:=
 q.da.tu ((Tu.refl (fun k=>k=g) wr).set (.inl rfl) v) fun k e=>by subst e;have:=q.ou;have:=q.ov;have:=q.ot;have:=q.oo;have:=q.ob;refine⟨A,?_,?_,?_,?_,?_⟩<;>omega
theorem cV.vy(q:cV h w0 B sb c n gu gv gt go gs gf gd gi owner wr a){i:Nat}(A:i<n)(x:Int):cV h w0 B sb c n gu gv gt go gs gf gd gi owner (wr.setCell ⟨gs,i,none⟩ (af ae x)) {a with c7:=a.c7.set i x}:=
 {q with da:=q.other q.ts (Ow.free q.rs _ rfl) _ _,rs:=q.rs.put A x,rf:=q.rf.ne (fun e=>q.sf e.symm) _ _,rd:=q.rd.ne (fun e=>q.sd e.symm) _ _,tu:=q.tu.set (.inr q.ts) _}
theorem cV.Bo(q:cV h w0 B sb c n gu gv gt go gs gf gd gi owner wr a){i:Nat}(A:i<n)(x:Int):cV h w0 B sb c n gu gv gt go gs gf gd gi owner (wr.setCell ⟨gf,i,none⟩ (af ae x)) {a with src:=a.src.set i x}:=
 {q with da:=q.other q.tf (Ow.free q.rf _ rfl) _ _,rs:=q.rs.ne q.sf _ _,rf:=q.rf.put A x,rd:=q.rd.ne (fun e=>q.fd e.symm) _ _,tu:=q.tu.set (.inr q.tf) _}
theorem cV.JW(q:cV h w0 B sb c n gu gv gt go gs gf gd gi owner wr a){i:Nat}(A:i<n)(x:Bool):cV h w0 B sb c n gu gv gt go gs gf gd gi owner (wr.setCell ⟨gd,i,none⟩ (.bool x)) {a with done:=a.done.set i x}:=
 {q with da:=q.other q.td (Ow.free q.rd _ rfl) _ _,rs:=q.rs.ne q.sd _ _,rf:=q.rf.ne q.fd _ _,rd:=q.rd.put A x,tu:=q.tu.set (.inr q.td) _}
theorem cV.rE(q:cV h w0 B sb c n gu gv gt go gs gf gd gi owner wr a){i:Nat}(A:i<n)(x:Int):cV h w0 B sb c n gu gv gt go gs gf gd gi owner (wr.setCell ⟨gu,i,none⟩ (af ae x)) {a with u:=a.u.set i x}:=
 have:=q.ou;have:=q.ts;have:=q.tf;have:=q.td
 {q with da:=q.da.rE A x,rs:=q.rs.ne (by omega) _ _,rf:=q.rf.ne (by omega) _ _,rd:=q.rd.ne (by omega) _ _,tu:=q.tu.set (.inl (.inl rfl)) _}
theorem cV.uw(q:cV h w0 B sb c n gu gv gt go gs gf gd gi owner wr a){i:Nat}(A:i<n)(x:Int):cV h w0 B sb c n gu gv gt go gs gf gd gi owner (wr.setCell ⟨gv,i,none⟩ (af ae x)) {a with v:=a.v.set i x}:=
 have:=q.ov;have:=q.ts;have:=q.tf;have:=q.td
 {q with da:=q.da.uw A x,rs:=q.rs.ne (by omega) _ _,rf:=q.rf.ne (by omega) _ _,rd:=q.rd.ne (by omega) _ _,tu:=q.tu.set (.inl (.inr (.inl rfl))) _}
theorem cV.pd(q:cV h w0 B sb c n gu gv gt go gs gf gd gi owner wr a):wr.cell? ⟨sb,1,none⟩=some (ag (some ⟨gu,0,none⟩) n n)∧wr.cell? ⟨sb,2,none⟩=some (ag (some ⟨gv,0,none⟩) n n)∧wr.cell? ⟨sb,3,none⟩=some (ag (some ⟨gt,0,none⟩) n n)∧wr.cell? ⟨sb,4,none⟩=some (ag (some ⟨go,0,none⟩) n n)∧sb<wr.heap.size∧gu<wr.heap.size∧gv<wr.heap.size∧go<wr.heap.size∧gs<wr.heap.size∧gf<wr.heap.size∧gd<wr.heap.size:=by obtain⟨A,E,x,-⟩:=q.da.box;exact⟨x.cl 1,x.cl 2,x.cl 3,x.cl 4,x.lt,q.da.ru.lt,q.da.rv.lt,q.da.ro.lt,q.rs.lt,q.rf.lt,q.rd.lt⟩
theorem cV.row(q:cV h w0 B sb c n gu gv gt go gs gf gd gi owner wr a){r j:Nat}(ad:r<n)(hj:j<n):∃b o E b2 A c2,wr.cell? ⟨sb,0,none⟩=some (ag (some ⟨b,o,none⟩) n E)∧b<wr.heap.size∧wr.cell? ⟨b,o+r,none⟩=some (ag (some ⟨b2,A,none⟩) n c2)∧b2<wr.heap.size∧wr.cell? ⟨b2,A+j,none⟩=some (af ae (gm c r j))∧b≠gs∧b2≠gs:=by obtain⟨am,E,x,ab⟩:=q.da.cell;obtain⟨b,o,rfl,O,b2,A,c2,M,Y,aj,ak,ac⟩:=ab r ad;have G:=Ow.free q.rs gs rfl;exact⟨b,o,E,b2,A,c2,x.cl 0,O,M,Y,(ac j hj).1,fun e=>aj (by rw[e];exact G),fun e=>ak (by rw[e];exact G)⟩
end
theorem JX(a:eB)(j:Nat): -1≤(aw j).foldl (e1 a) (-1)∧(aw j).foldl (e1 a) (-1)<j:=by
 induction j with
 |zero=>simp
 |succ j A=>rw[dx,dH,dK,fk];generalize(aw j).foldl (e1 a) (-1)=x at A;unfold e1;split<;>omega
theorem JY(owner:List Int)(E:Int)(n j:Nat)(hj:j≤n)(a:eB){b:eB}(A:(aw n).foldl (kZ owner E) (some a)=some b):∃G,(aw j).foldl (kZ owner E) (some a)=some G:=by
 induction n generalizing b with
 |zero=>obtain rfl:j=0:=by omega
        exact⟨_,A⟩
 |succ n M=>
  by_cases e:j=n+1;·subst e;exact⟨_,A⟩
  ·rw[dx,dH,dK,fk]at A;cases hf:(aw n).foldl (kZ owner E) (some a)with
   |none=>rw[hf]at A;cases A
   |some a'=>exact M (by omega) hf
theorem FB{B:Nat}{h:Hp}{w:World}{sb:Nat}{c:List (List Int)}{n gu gv gt go:Nat}{s:fD}(q:cB B h w sb c n gu gv gt go s)(M:Nat)(aT:M<n)(s':fD)(aL:lV c n M s=some s'):Calls Tryz.prog 143 #[.pointer (some ⟨sb,0,none⟩),af ae M] w fun e w'=>e= .returned (.tuple #[])∧cB B h w' sb c n gu gv gt go s'∧Tu (fun k=>k=gu∨k=gv∨k=gt∨k=go) w w':=by
 have bV:=aa aL;have Q:=aa q;obtain⟨db,dg,x,-⟩:=q.box;have bG:w.cell? ⟨sb,0,none⟩=some (ag db n dg):=x.cl 0;have dG:=x.lt;have dR:=q.jw;have c6:=aa q.I;clear aL q x;have dN:=fP;have bZ:Hid (St w.heap.size h w h w):=St.refl c6.out;go_enter Tryz.func143,Tryz.ntmps143
 go_wp2_with(first
  |(at_make;refine jk fP rfl _ _ rfl bZ.out ae ae _ _ n rfl rfl (by go_num) (by go_num) (by omega) ?_;intro w1 cz ba dp;rw[j7]at ba;have aZ:=aa ba;have b0:=aa cz;have bY:=(ba.lt w.heap.size rfl).2;clear cz ba dp;clear bZ)
  |(at_make;refine jk fP rfl _ _ rfl b0.out ae ae _ _ n rfl rfl (by go_num) (by go_num) (by omega) ?_;intro w2 cA bd cd;rw[j7]at bd;have bL:=aa bd;have bJ:=aa (aZ.out.grown cd (fun _ _ e=>by cases e));have b9:=aa cA;have L2:=(bd.lt w1.heap.size rfl).2;clear cA bd cd;clear b0 aZ)
  |(at_make;refine jk ry rfl _ _ rfl b9.out ae ae _ _ n rfl rfl (by go_num) (by go_num) (by omega) ?_;intro w3 cC bg bA;rw[j7]at bg;have bO:=aa bg;have aZ:=aa (bJ.out.grown bA (fun _ _ e=>by cases e));have bN:=aa (bL.out.grown bA (fun _ _ e=>by cases e));have cc:=aa cC;have cY:=(bg.lt w2.heap.size rfl).2;clear cC bg bA;clear b9 bJ bL))
 have aY:Hid (cV h w B sb c n gu gv gt go w.heap.size w1.heap.size w2.heap.size s.tq s.owner w3 ⟨s.u,s.v,cM n,cM n,aA n false⟩):=by
  have b:=cc.out.below;have cQ:aV (cM n)=aA n (af ae 0):=by simp[aV,cM]
  have dF:dZ (aA n false)=aA n (.bool false):=by simp[dZ]
  have:=Q.out.ru.lt;have:=Q.out.rv.lt;have:=Q.out.rt.lt;have:=Q.out.ro.lt;refine{da:=Q.out.below b,rs:= ?_,rf:= ?_,rd:= ?_,ts:=Nat.le_refl _,tf:=by omega,td:=by omega,sf:=by omega,sd:=by omega,fd:=by omega,ou:=Q.out.ru.lt,ov:=Q.out.rv.lt,ot:=Q.out.rt.lt,oo:=Q.out.ro.lt,ob:=dG,tu:=(Tu.refl _ _).below b};·unfold IR;rw[cQ];exact aZ.out
  ·unfold IR;rw[cQ];exact bN.out
  ·unfold BR;rw[dF];exact bO.out
 have c9:Hid (w.heap.size<w1.heap.size∧w1.heap.size<w2.heap.size):=⟨bY,L2⟩
 generalize dw:w.heap.size=gs at aY⊢;generalize dv:w1.heap.size=gf at aY⊢;generalize du:w2.heap.size=gd at aY⊢;clear aZ bN bO cc dw dv du bY L2 cY c9 bG;go_loopw[8,28,29,30,31,32,33,34,35,36,37,38,39,40,41,42,43,44,45,46,47,48,49,50,51,52,53,54,55,56,57,58,59,60,61,62,63,64] (fun _ j _ _ _ _ _ _ _ _ _ _ _ _ _ _ _ _ _ _ _ _ _ _ _ _ _ _ _ _ _ _ _ _ _ _ _ _ wr=>∃(Y:Nat),Y≤n∧j=af ae Y∧cV h w B sb c n gu gv gt go gs gf gd s.tq s.owner wr ((aw Y).foldl (kj c M) ⟨s.u,s.v,cM n,cM n,aA n false⟩)) (fun _ j _ _ _ _ _ _ _ _ _ _ _ _ _ _ _ _ _ _ _ _ _ _ _ _ _ _ _ _ _ _ _ _ _ _ _ _ _=>n-(intOf j).toNat);case atStart=>exact⟨0,aW _,rfl,aY.out⟩
 case round=>
  obtain⟨j,aQ,rfl,A⟩:=hrel;by_cases hj:j<n
  ·skip;generalize G:(aw j).foldl (kj c M) ⟨s.u,s.v,cM n,cM n,aA n false⟩=a at A;obtain⟨aX,bm,cN,bp,k1,k2,k3,k4,k5,k6,k7⟩:=A.pd;obtain⟨b,o,dh,b2,dB,c2,bG,k8,aN,k9,bz,cu,cv⟩:=A.row aT hj;have aJ:=A.da.ru.get aT;have aP:=A.da.rv.get hj;have dj:=A.rs.fz hj;have dk:=A.rf.fz hj;have dm:=A.rs.get hj;have dn:=A.rf.get hj;have cU:=aa ((A.vy hj (oY c a.u a.v M j)).Bo hj M).drew;have aM:=aa G;have cE:(0:Int)≤(j:Int):=by omega
   have cF:(j:Int)<(n:Int):=by omega
   have cG:(0:Int)≤(M:Int):=by omega
   have cK:(M:Int)<(n:Int):=by omega
   have ct:=A.sf;clear A G;go_wp2_with fail;refine ic 29 (by kernel_rfl) (by kernel_rfl) ?_;simp only[fl,ie,gj,fm];change wpStill _ _ (dd _) (fun a'=>wpList _ _ _ _ a' (dd _)) _ _;repeat still_step
   refine ig ?_;go_wp2_with fail;go_roundw;case rel=>exact⟨j+1,by omega,by go_num,by rw[dx,dH,dK,fk,aM.out];exact cU.out⟩
   case measure=>simp[intOf];omega
  ·obtain rfl:n=j:=by omega
   have aL:=bV.out;unfold lV at aL;generalize(aw n).foldl (kj c M) ⟨s.u,s.v,cM n,cM n,aA n false⟩=a0 at A aL;have a8:=aa A;have bX:=aa aL;clear A aL bV aY hj aQ;go_wp2_with fail;go_loopg[] (n+1) (fun k wr=>∃a:eB,nU c n M s.tq s.owner k a=some s'∧cV h w B sb c n gu gv gt go gs gf gd s.tq s.owner wr a);case atStart=>exact⟨a0,bX.out,a8.out⟩
   case round=>
    obtain⟨a,G,A⟩:=hrel;clear bX a8;cases gk with
    |zero=>simp[nU]at G
    |succ k=>
     have a8:=aa A;have aM:=aa G;clear A G;go_wp2_with fail;go_loopw[9,10,66,67,68,69,70,71,72,73,74,75,76,77,78,79,80,81,82,83,84,85,86,87,88,89,90] (fun nx _ i _ _ _ _ _ _ _ _ _ _ _ _ _ _ _ _ _ _ _ _ _ _ _ _ bE=>∃(Y:Nat),Y≤n∧i=af ae Y∧nx=af ae ((aw Y).foldl (e1 a) (-1))∧cV h w B sb c n gu gv gt go gs gf gd s.tq s.owner bE a) (fun _ _ i _ _ _ _ _ _ _ _ _ _ _ _ _ _ _ _ _ _ _ _ _ _ _ _ _=>n-(intOf i).toNat);case atStart=>exact⟨0,aW _,rfl,rfl,a8.out⟩
     case round=>
      obtain⟨j,aQ,rfl,rfl,A⟩:=hrel;have bB:=JX a j;by_cases hj:j<n
      ·skip;have ad:Hid ((aw (j+1)).foldl (e1 a) (-1)=e1 a ((aw j).foldl (e1 a) (-1)) j):=by unfold Hid;rw[dx,dH,dK,fk]
       generalize(aw j).foldl (e1 a) (-1)=x at bB ad;have ao:=A.rd.get hj;have aN:=A.rs.get hj;obtain⟨-,-,-,-,-,-,-,-,k5,-,k7⟩:=A.pd;have cE:(0:Int)≤(j:Int):=by omega
       have cF:(j:Int)<(n:Int):=by omega
       by_cases E:a.done.getD j false=true
       ·have ac:Hid (e1 a x j=x):=by unfold Hid e1;rw[if_neg (by rintro⟨e,-⟩;rw[E]at e;cases e)]
        rw[E]at ao;have aB:=aa A;clear A E;go_wp2_with fail;go_quiet(fail);go_wp2_with fail;go_roundw;case rel=>exact⟨j+1,by omega,by go_num,by rw[ad.out,ac.out],aB.out.drewN _⟩
        case measure=>simp[intOf];omega
       ·have ab:a.done.getD j false=false:=by simpa using E
        rw[ab]at ao;by_cases cq:x<0
        ·have ac:Hid (e1 a x j=j):=by unfold Hid e1;rw[if_pos ⟨ab,.inl cq⟩]
         have aB:=aa A;clear A E ab;go_wp2_with fail;go_quiet(fail);go_wp2_with fail;go_roundw;case rel=>exact⟨j+1,by omega,by go_num,by rw[ad.out,ac.out],aB.out.drewN _⟩
         case measure=>simp[intOf];omega
        ·obtain⟨m,rfl⟩:∃m:Nat,x=m:=⟨x.toNat,by omega⟩
         have bz:=A.rs.get (show m<n by omega);have cG:(0:Int)≤(m:Int):=by omega
         have cK:(m:Int)<(n:Int):=by omega
         by_cases am:ge a.c7 j<ge a.c7 m
         ·have ac:Hid (e1 a m j=j):=by unfold Hid e1;rw[if_pos ⟨ab,.inr am⟩]
          have aB:=aa A;clear A E ab;go_wp2_with fail;go_quiet(fail);go_wp2_with fail;go_roundw;case rel=>exact⟨j+1,by omega,by go_num,by rw[ad.out,ac.out],aB.out.drewN _⟩
          case measure=>simp[intOf];omega
         ·have ac:Hid (e1 a m j=m):=by unfold Hid e1;rw[if_neg (by rintro⟨-,e|e⟩;exact cq e;exact am e)]
          have aB:=aa A;clear A E ab;go_wp2_with fail;go_quiet(fail);go_wp2_with fail;go_roundw;case rel=>exact⟨j+1,by omega,by go_num,by rw[ad.out,ac.out],aB.out.drewN _⟩
          case measure=>simp[intOf];omega
      ·obtain rfl:n=j:=by omega
       have G:=aM.out;simp only[nU]at G;have cf:p5 a n<n:=by have:=bB.2;unfold p5;omega
       change _=_ at G;generalize cj:p5 a n=nx at G cf;have cl:(aw n).foldl (e1 a) (-1)=nx:=cj;rw[cl];split at G;case isTrue=>cases G
       case isFalse dq=>
        obtain⟨m,rfl⟩:∃m:Nat,nx=m:=⟨nx.toNat,by omega⟩
        have a4:m<n:=by omega
        simp only[dy]at G;generalize cg:ge a.c7 m=aG at G;split at G;case h_1=>cases G
        case h_2 a9 ch=>
        have aM:=aa G;have bv:=aa ch;have aN:=A.rs.get a4;rw[cg]at aN;obtain⟨aX,-,-,-,k1,k2,-,-,k5,-,-⟩:=A.pd;have aJ:=A.da.ru.get aT;have aP:=A.da.ru.fz aT;have bH:=aa (A.rE aT (bS (ge a.u M+aG)));have cE:(0:Int)≤(m:Int):=by omega
        have cF:(m:Int)<(n:Int):=by omega
        have cG:(0:Int)≤(M:Int):=by omega
        have cK:(M:Int)<(n:Int):=by omega
        clear A G ch cj cl bB cf dq aQ hj cg;go_wp2_with fail;go_loopw[12,106,107,108,109,110,111,112,113,114,115,116,117,118,119,120,121,122,123,124,125,126,127,128,129,130,131,132,133,134,135,136,137,138,139,140,141,142,143,144,145,146] (fun _ i _ _ _ _ _ _ _ _ _ _ _ _ _ _ _ _ _ _ _ _ _ _ _ _ _ _ _ _ _ _ _ _ _ _ _ _ _ _ _ _ bE=>∃(Y:Nat) (aj:eB),Y≤n∧i=af ae Y∧(aw Y).foldl (kZ s.owner aG) (some {a with u:=a.u.set M (bS (ge a.u M+aG))})=some aj∧cV h w B sb c n gu gv gt go gs gf gd s.tq s.owner bE aj) (fun _ i _ _ _ _ _ _ _ _ _ _ _ _ _ _ _ _ _ _ _ _ _ _ _ _ _ _ _ _ _ _ _ _ _ _ _ _ _ _ _ _ _=>n-(intOf i).toNat);case atStart=>exact⟨0,_,aW _,rfl,rfl,bH.out⟩
        case round=>
         obtain⟨j,aj,aQ,rfl,a2,A⟩:=hrel;clear aX aJ aP k1 k2 k5 aN;by_cases hj:j<n
         ·skip;obtain⟨de,a3⟩:=JY _ _ n (j+1) hj _ bv.out;have ak:kZ s.owner aG (some aj) j=some de:=by rw[dx,dH,dK,fk,a2]at a3;exact a3
          have bR:=aa a3;have ao:=A.rd.get hj;obtain⟨aX,bm,cN,bp,k1,k2,k3,k4,k5,k6,k7⟩:=A.pd;have dC:(0:Int)≤(j:Int):=by omega
          have dD:(j:Int)<(n:Int):=by omega
          have ct:=A.da.bu;have dP:=A.da.bv;have dQ:=A.da.uv;by_cases E:aj.done.getD j false=true
          ·rw[E]at ao;unfold kZ at ak;simp only[if_pos E]at ak;split at ak;case isFalse=>cases ak
           case isTrue dr=>
            have co:=A.da.ru.len;simp only at co;obtain⟨r,aS⟩:∃r:Nat,ge s.owner j=r:=⟨(ge s.owner j).toNat,by omega⟩
            have a5:r<n:=by omega
            rw[aS]at ak;simp only[dy,aC]at ak;subst ak;have aO:=A.da.ro.get hj;simp only at aO;rw[aS]at aO;have aJ:=A.da.ru.get a5;have aP:=A.da.ru.fz a5;have di:=A.da.rv.get hj;have dO:=A.da.rv.fz hj;simp only at aJ di;have dU:(0:Int)≤(r:Int):=by omega
            have dW:(r:Int)<(n:Int):=by omega
            have O:=aa ((A.rE a5 (bS (ge aj.u r+aG))).uw hj (bS (ge aj.v j-aG))).drew;clear A E co dr aS a2 a3;go_wp2_with fail;refine ic 16 (by kernel_rfl) (by kernel_rfl) ?_;simp only[fl,ie,gj,fm];change wpStill _ _ (dd _) (fun a'=>wpList _ _ _ _ a' (dd _)) _ _;repeat still_step
            refine ig ?_;go_wp2_with fail;go_roundw;case rel=>exact⟨j+1,_,by omega,by go_num,bR.out,O.out⟩
            case measure=>simp[intOf];omega
          ·have ab:aj.done.getD j false=false:=by simpa using E
           rw[ab]at ao;unfold kZ at ak;simp only[if_neg E,aC]at ak;subst ak;have aJ:=A.rs.get hj;have aP:=A.rs.fz hj;have O:=aa (A.vy hj (bS (ge aj.c7 j-aG)));clear A E ab a2 a3;go_wp2_with fail;go_roundw;case rel=>exact⟨j+1,_,by omega,by go_num,bR.out,O.out⟩
           case measure=>simp[intOf];omega
         ·obtain rfl:n=j:=by omega
          have ci:aj=a9:=aU (a2.symm.trans bv.out);rw[ci]at A;have ax:=aM.out;clear a2 ci bv bH aM aQ hj;have O:=aa (A.JW a4 true);have aN:=A.rd.get a4;have bz:=A.rd.fz a4;obtain⟨aX,bm,-,bp,k1,k2,k3,k4,k5,k6,k7⟩:=A.pd;have aO:=A.da.ro.get a4;simp only at aO;have cu:sb≠gd:=by have:=A.ob;have:=A.td;omega
          have cv:go≠gd:=by have:=A.oo;have:=A.td;omega
          clear A;by_cases bC:ge s.owner m<0;·rw[if_pos bC,Option.map_eq_some_iff]at ax;obtain⟨p,cm,rfl⟩:=ax;have cX:=aa cm;clear cm;go_wp2_with fail;refine(Fp M aT a9.src (by have:=O.out.ob;have:=O.out.tf;omega) (by have:=O.out.ot;have:=O.out.tf;omega) (by have:=O.out.oo;have:=O.out.tf;omega) (n+1) _ _ O.out.da O.out.rf (m:Int) p.1 p.2 (by exact cX.out)).mono ?_;rintro e d0 ⟨rfl,cw,cD⟩;have c8:=aa (O.out.tu.trans (cD.mono fun k dA=>by rcases dA with rfl|rfl;exact .inr (.inr (.inl rfl));exact .inr (.inr (.inr rfl))));have cZ:=aa cw;clear cw cD;go_wp2_with fail;refine bodyPost_ret (results_none rfl _ _ _) rfl ?_;exact⟨rfl,cZ.out,c8.out⟩
          ·rw[if_neg bC]at ax;split at ax;case isTrue=>cases ax
           case isFalse a5=>
            obtain⟨r,aS⟩:∃r:Nat,ge s.owner m=r:=⟨(ge s.owner m).toNat,by omega⟩
            have cn:r<n:=by omega
            rw[aS]at ax aO;have bT:=aa ax;have dX:(0:Int)≤(r:Int):=by omega
            have dY:(r:Int)<(n:Int):=by omega
            generalize ce:({a9 with done:=a9.done.set m true}:eB)=a1 at bT;have bI:Hid (cV h w B sb c n gu gv gt go gs gf gd s.tq s.owner (wr.setCell ⟨gd,m,none⟩ (.bool true)) a1):=by rw[←ce];exact O.out
            clear ce O ax bC a5 aS;go_wp2_with fail;go_loopw[14,15,165,166,167,168,169,170,171,172,173,174,175,176,177,178,179,180,181,182,183,184,185,186,187,188,189,190,191,192,193,194,195,196,197,198,199,200,201,202,203,204,205,206,207,208,209,210,211,212,213,214,215] (fun _ _ i _ _ _ _ _ _ _ _ _ _ _ _ _ _ _ _ _ _ _ _ _ _ _ _ _ _ _ _ _ _ _ _ _ _ _ _ _ _ _ _ _ _ _ _ _ _ _ _ _ _ dE=>∃(Y:Nat),Y≤n∧i=af ae Y∧cV h w B sb c n gu gv gt go gs gf gd s.tq s.owner dE ((aw Y).foldl (iQ c r) a1)) (fun _ _ i _ _ _ _ _ _ _ _ _ _ _ _ _ _ _ _ _ _ _ _ _ _ _ _ _ _ _ _ _ _ _ _ _ _ _ _ _ _ _ _ _ _ _ _ _ _ _ _ _ _ _=>n-(intOf i).toNat);case atStart=>exact⟨0,aW _,rfl,bI.out⟩
            case round=>
             obtain⟨j,aQ,rfl,A⟩:=hrel;clear bI aX bm bp aO aN bz;by_cases hj:j<n
             ·have ad:Hid ((aw (j+1)).foldl (iQ c r) a1=iQ c r ((aw j).foldl (iQ c r) a1) j):=by unfold Hid;rw[dx,dH,dK,fk]
              generalize(aw j).foldl (iQ c r) a1=a at A ad;obtain⟨aX,bm,cN,bp,k1,k2,k3,k4,k5,k6,k7⟩:=A.pd;obtain⟨b,o,dh,b2,dB,c2,bG,k8,q1,k9,dT,cu,cv⟩:=A.row cn hj;have aJ:=A.da.ru.get cn;have aP:=A.da.rv.get hj;have dj:=A.rs.fz hj;have dk:=A.rf.fz hj;have dm:=A.rs.get hj;have dn:=A.rf.get hj;have ao:=A.rd.get hj;simp only at aJ aP;have dC:(0:Int)≤(j:Int):=by omega
              have dD:(j:Int)<(n:Int):=by omega
              have ct:=A.sf;have bq:=aa A;clear A;by_cases E:a.done.getD j false=true
              ·have ac:Hid (iQ c r a j=a):=by unfold Hid iQ;rw[if_neg (by rintro⟨e,-⟩;rw[E]at e;cases e)]
               rw[E]at ao;clear E;go_wp2_with fail;go_quiet(fail);go_wp2_with fail;go_roundw;case rel=>exact⟨j+1,by omega,by go_num,by rw[ad.out,ac.out];exact bq.out.drewN _⟩
               case measure=>simp[intOf];omega
              ·have ab:a.done.getD j false=false:=by simpa using E
               rw[ab]at ao;by_cases am:oY c a.u a.v r j<ge a.c7 j
               ·have ac:Hid (iQ c r a j={a with c7:=a.c7.set j (oY c a.u a.v r j),src:=a.src.set j r}):=by unfold Hid iQ;rw[if_pos ⟨ab,am⟩]
                have dt:wrap64 (wrap64 (gm c r j-ge a.u r)-ge a.v j)<ge a.c7 j:=am;clear E ab am;go_wp2_with fail;go_quiet(fail);go_wp2_with fail;go_roundw;case rel=>exact⟨j+1,by omega,by go_num,by rw[ad.out,ac.out];exact((bq.out.drewN _).vy hj _).Bo hj _⟩
                case measure=>simp[intOf];omega
               ·have ac:Hid (iQ c r a j=a):=by unfold Hid iQ;rw[if_neg (by rintro⟨-,e⟩;exact am e)]
                have dt:¬wrap64 (wrap64 (gm c r j-ge a.u r)-ge a.v j)<ge a.c7 j:=am;clear E ab am;go_wp2_with fail;go_quiet(fail);go_wp2_with fail;go_roundw;case rel=>exact⟨j+1,by omega,by go_num,by rw[ad.out,ac.out];exact bq.out.drewN _⟩
                case measure=>simp[intOf];omega
             ·obtain rfl:n=j:=by omega
              have cS:=aa A;clear A;go_wp2_with fail;go_roundg k;case measure=>omega
              case rel=>exact⟨_,bT.out,cS.out⟩
end Go.Proofs.YtdplggpbgommnaaGreatDoor
