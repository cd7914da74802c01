/- PairingOnce is walked. -/
import Derived.Test.YtdplggpbgommnaaGreatDoorG29
import Derived.Test.YtdplggpbgommnaaGreatDoorG31
open Go renaming wpAnyH_ready->zx
open Go.Act renaming put->br
open Go.AllReadyH renaming cons->zy,nil->Bi
open Go.IntKind renaming i64->ae
open Go.Lib renaming PrintTabs->fq,hid->aa
open Go.NoPanic renaming normal->Ci
open Go.Proofs.Tryz renaming prog->ai
open Go.RowKit.Below renaming refl->aD
open Go.Value renaming int->af,slice->ag
open List renaming getElem?_eq_getElem->aE,getElem?_map->jB,getElem_cons_succ->dV,getElem_cons_zero->dJ,getElem_toArray->eV,length_append->cI,length_cons->bF,length_nil->cL,setIfInBounds_toArray->bh,set_cons_succ->bf,set_cons_zero->nu
open Nat renaming zero_le->aW
open Option.some renaming inj->aU
open Prod.mk renaming injEq->jg
set_option maxHeartbeats 8000000
set_option maxRecDepth 100000
namespace Go.Proofs.YtdplggpbgommnaaGreatDoor
open Go.RowKit
structure fN(h:Hp)(w:World)(nt:List Tree)(s:bp)(i j:Nat)(h1:Hp)(wr:World)(v:Value)(seen:List (Int×Int)):Prop where
 st:St w.heap.size h w h1 wr
 row:Ow wr h1 w.heap.size 43 2 v seen.length (seen.flatMap bV)
 sn:kz s.rs (fun m=>(nt.getD m default).size) i j seen
 ln:seen.length<=i*361+j
section
variable {h h1 h2:Hp} {w wr w2:World} {nt:List Tree} {s:bp} {i j:Nat} {v v':Value} {seen:List (Int×Int)}
theorem fN.call(a:fN h w nt s i j h1 wr v seen)(t:St wr.heap.size h1 wr h2 w2):fN h w nt s i j h2 w2 v seen:=
 ⟨a.st.call t,a.row.call t,a.sn,a.ln⟩
theorem fN.alloc(a:fN h w nt s i j h1 wr v seen)(o:Obj):fN h w nt s i j h1 (wr.alloc o) v seen:=a.call (St.pI a.st.I ((aD _ _).alloc (Nat.le_refl _) o))
theorem fN.drew(a:fN h w nt s i j h1 wr v seen):fN h w nt s i j h1 wr.drew v seen:=⟨a.st.drew,a.row.drew,a.sn,a.ln⟩
theorem fN.drewN(a:fN h w nt s i j h1 wr v seen)(n:Nat):fN h w nt s i j h1 (wr.drewN n) v seen:=⟨a.st.drewN n,a.row.drewN n,a.sn,a.ln⟩
theorem fN.same(a:fN h w nt s i j h1 wr v seen)(b:Below wr.heap.size wr w2):fN h w nt s i j h1 w2 v seen:=a.call (St.pI a.st.I b)
theorem fN.skip(a:fN h w nt s i j h1 wr v seen):fN h w nt s i (j+1) h1 wr v seen:=⟨a.st,a.row,a.sn.skip,by have:=a.ln;omega⟩
theorem fN.Mw(a:fN h w nt s i j h1 wr v seen)(hj:j=(nt.getD i default).size)(hs:j<=361):fN h w nt s (i+1) 0 h1 wr v seen:=⟨a.st,a.row,by subst hj;exact a.sn.row,by rw[Nat.add_mul,Nat.add_zero];exact Nat.le_trans a.ln (Nat.add_le_add_left hs _)⟩
theorem fN.next{a b:Int}(x:fN h w nt s i j h1 wr v seen)(e:(s.rs.getD i []).getD j (-1,0)=(a,b))(G:0<=a)(own:Ow w2 h1 w.heap.size 43 2 v' (seen.length+1) (seen.flatMap bV++[af ae a,af ae b]))(g:wr.grownBy w2 v.ownBlock):fN h w nt s i (j+1) h1 w2 v' (seen++[(a,b)]):=
 ⟨x.st.grown g fun k e=>⟨(x.row.lt k e).1,x.row.free k e⟩,by rw[cI,List.flatMap_append];exact own,by rw[<-e];exact x.sn.push (by rw[e];exact G),by have:=x.ln;rw[cI];simp only[bF,cL];omega⟩
end
theorem Mt(T:fq)(N:Nat)(w:World)(tb:Tb T N w)(a a':Option Addr)(n m c c':Nat)(k bu:Int)(hn:¬(n<=120/\m<=120))(h1:n<=9223372036854775807)(h2:m<=9223372036854775807):Calls ai 5 #[ag a n c,af ae k,ag a' m c',af ae bu] w fun e w'=>e= .returned (.bool true)/\Below w.heap.size w w':=by
 have O:=aa tb;clear tb;rcases Nat.lt_or_ge 120 n with Y|Y
 ·have g1:decide ((n:Int)<=120)=false:=by simp;omega
  go_in;go_wp2_with fail;refine(Al _ a n c h1).mono ?_;rintro e w1 ⟨rfl,rfl⟩;rw[g1];go_wp2_with fail;refine(vg T N _ O.out).mono ?_;rintro e w2 ⟨rfl,G⟩;have J:=aa G;clear G;go_wp2_with fail;go_ret;exact⟨rfl,J.out⟩
 ·have g1:decide ((n:Int)<=120)=true:=by simp;omega
  have g2:decide ((m:Int)<=120)=false:=by simp;omega
  go_in;go_wp2_with fail;refine(Al _ a n c h1).mono ?_;rintro e w1 ⟨rfl,rfl⟩;rw[g1];go_wp2_with fail;refine(Al _ a' m c' h2).mono ?_;rintro e w1 ⟨rfl,rfl⟩;rw[g2];go_wp2_with fail;refine(vg T N _ O.out).mono ?_;rintro e w2 ⟨rfl,G⟩;have J:=aa G;clear G;go_wp2_with fail;go_ret;exact⟨rfl,J.out⟩
theorem Ms(T:fq)(N:Nat)(h:Hp)(w:World)(J:ao h w)(tb:Tb T N w)(vl vm:Value)(L M:List Int)(cq:Ints h vl L)(hm:Ints h vm M)(eW:L.length<=120)(eX:M.length<=120)(hc:∀a c,vl=ag a L.length c->L.length<=c)(k bu:Int)(a3:aG k)(eY:aG bu):Calls ai 5 #[vl,af ae k,vm,af ae bu] w fun e w'=>e= .returned (.bool true)/\Below w.heap.size w w':=by
 have ej:=aa J;have el:=aa cq;have em:=aa hm;have bO:=aa tb;obtain⟨al,eK,rfl,eZ,-⟩:=cq.open;obtain⟨dn,du,rfl,ct,-⟩:=hm.open;clear J cq hm tb;have g1:decide ((L.length:Int)<=120)=true:=by simp;omega
 have g2:decide ((M.length:Int)<=120)=true:=by simp;omega
 go_in;go_wp2_with fail;refine(Al _ al L.length eK (by omega)).mono ?_;rintro e w1 ⟨rfl,rfl⟩;rw[g1];go_wp2_with fail;refine(Al _ dn M.length du (by omega)).mono ?_;rintro e w1 ⟨rfl,rfl⟩;rw[g2];go_wp2_with fail;refine(Mr h _ ej.out _ _ L M el.out em.out eW eX k a3 hc).mono ?_;rintro e w1 ⟨va,vb,h1,ta,G,rfl,cD,cE,cF,dY,dZ⟩;obtain⟨fh,ca,rfl,fA⟩:=(show∃a c,va=ag a ta.length c/\ta.length<=140737488355328 by obtain⟨cs,q,-⟩:=cE;exact q.shape)
 obtain⟨fi,cb,rfl,fB⟩:=(show∃a c,vb=ag a G.length c/\G.length<=140737488355328 by obtain⟨cs,q,-⟩:=cF;exact q.shape)
 have bY:=aa cD.below;have cX:=aa cD.I;have cc:=aa cE;have cd:=aa cF;have aB:=aa dY;have aJ:=aa dZ;clear cD cE cF dY dZ;go_wp2_with fail;refine(HK _ bu 300 eY (by omega) (by omega)).mono ?_;rintro e w2 ⟨rfl,rfl⟩;have dp:=HJ bu 300 (by omega);generalize oc bu 300=b3 at*;have d8:=aa dp;clear dp;go_wp2_with fail;refine(u2 T N _ _ cX.out (bO.out.below (bY.out.mono bO.out.1)) _ _ _ _ cc.out cd.out b3 (by unfold aG;have:=d8.out;omega) aB.out.prog aJ.out.prog aB.out.texts aJ.out.texts aB.out.jw aJ.out.jw aB.out.oe aJ.out.oe).mono ?_;rintro e aS ⟨fY,aO,rfl,bB,dg⟩;obtain⟨⟨U,on⟩,dN⟩:=Mq (GZ T) (ot:=ta) (nt:=G) b3 1 (fun i J=>(aB.out.at J).1) (fun i J=>(aJ.out.at J).1) (by have:=aB.out.dS;omega) (by have:=aJ.out.dS;omega) (fun d hd=>by have:=(aB.out.def hd).1.1;omega) (fun d hd=>by have:=(aJ.out.def hd).1.1;omega);generalize(eD (aX T) b3 ta G)=pr at*;have bZ:Hid (Below w.heap.size w aS):=bY.out.trans (bB.below.mono bY.out.size);have cY:=aa bB.I;have eG:=aa (cc.out.mono bB.le);have eH:=aa (cd.out.mono bB.le);have bJ:=aa on;obtain⟨a9,aY,rfl,hr⟩:=Ly dg;have eo:=aa hr;have rl:=on.rl;rw[rl];generalize pr.a7=a5 at*;generalize pr.cost=a8 at*;have eb:Hid (decide (a5<=a8)=true):=decide_eq_true dN;clear bB dg hr dN on rl cc cd cX;have bq:=aa (Has.new aS #[ag a9 G.length aY,af ae a8,af ae a5] 31);have ez:Hid (ao aO (aS.alloc (.cells #[ag a9 G.length aY,af ae a8,af ae a5] 31))):=cY.out.alloc _;have cG:Hid (Below w.heap.size w (aS.alloc (.cells #[ag a9 G.length aY,af ae a8,af ae a5] 31))):=bZ.out.alloc bZ.out.size _;go_upto_region 6 with fail;generalize aS.alloc (.cells #[ag a9 G.length aY,af ae a8,af ae a5] 31)=wp at*;generalize aS.heap.size=bA at*;have aQ:=bq.out.cl 0;have a4:=bq.out.lt;change wp.cell? ⟨bA,0,none⟩=some (ag a9 G.length aY)at aQ;clear cY bZ;go_wp2_with fail;go_loopw[12,13] (fun aj i bd=>∃(cA:Nat) (cl:Hp) (seen:List (Int×Int)),cA<=G.length/\i=af ae cA/\fN aO wp G pr cA 0 cl bd aj seen) (fun _ i _=>G.length-(intOf i).toNat);case atStart=>exact⟨0,aO,[],aW _,rfl,⟨St.refl ez.out,Ow.nil _ _ _ _ _,kz.start,by simp⟩⟩
 case round=>
  clear aQ a4;obtain⟨i,cl,seen,fF,rfl,aj⟩:=hrel;obtain⟨av,cj,rfl⟩:=aj.row.shape;have O:=aa aj;clear aj;have cZ:Hid (ao aO wr):=O.out.st.gq;have ak:=aa (bq.out.below O.out.st.below);by_cases J:i<G.length
  ·obtain⟨cs,hs,he⟩:=eH.out;obtain⟨b,off,dm,dt,dk,dr,rfl,bv,a2⟩:=ed hs he i J;have er:=aa bv;obtain⟨d0,aL,aM,aN⟩:=a2 wr cZ.out;have d5:(0:Int)<=(i:Int):=by omega
   have fc:(i:Int)<(G.length:Int):=by omega
   have b9:=aa (aJ.out.at J).size;have fP:=aJ.out.1;have dB:(G.getD i default).size=G[i].size:=by rw[getD_at J]
   have cM:=aa dB;clear bv a2 hs he dB;go_wp2_with fail;refine(L9 1000000 G[i] (by have:=b9.out;have:=cM.out;omega) cl _ O.out.st.I _ (er.out.mono O.out.st.le) (by have:=b9.out;have:=cM.out;omega)).mono ?_;rintro e d6 ⟨fe,rfl,h7,d3,fb⟩;have cv:(fO G[i]).length=(G.getD i default).size:=by rw[r3,getD_at J]
   have eA:Hid (iZ (G.getD i default)=(fO G[i]).map Tree.kind):=by unfold Hid;rw[getD_at J];exact uC _
   have bL:=aa (bJ.out.gZ i J);have ea:=aa (fun j=>bJ.out.each i j J);have eC:=aa (fun seen j (sn:kz pr.rs (fun m=>(G.getD m default).size) i j seen)=>sn.new bJ.out J);generalize dW:(G.getD i default).size=sz at*;have ey:=aa dW;clear dW;generalize fO G[i]=ns at*;obtain⟨fu,bS,dP⟩:=fb;obtain⟨an,fj,rfl,fS⟩:=bS.shape;rw[cv];have ep:=aa bS;have ei:=aa dP;have cU:=aa cv;have bN:=aa (O.out.call d3);clear d3 bS dP d0 aL aM aN O cZ ak cv;have c6:Hid (ao aO d6):=bN.out.st.gq;have ak:=aa (bq.out.below bN.out.st.below);have aQ:=ak.out.cl 0;have a4:=ak.out.lt;change d6.cell? ⟨bA,0,none⟩=some (ag a9 G.length aY)at aQ;have rl:=bJ.out.rl;obtain⟨rb,e7,fw,fx,rfl,bR,dw⟩:=eo.out i (by omega);rw[bL.out]at bR;have d9:=aa bR;obtain⟨cf,cg⟩:=bR _ c6.out;have ec:=aa dw;clear bR dw rl;have fV:=b9.out;go_wp2_with fail;go_loopw[12,15] (fun aj j bd=>∃(cB:Nat) (aV:Hp) (seen:List (Int×Int)),cB<=sz/\j=af ae cB/\h7.le aV/\fN aO wp G pr i cB aV bd aj seen) (fun _ j _=>sz-(intOf j).toNat);case atStart=>exact⟨0,h7,seen,aW _,rfl,Hp.le_refl _,bN.out⟩
   case round=>
    clear aQ a4 cf cg bN ak c6;obtain⟨j,aV,seen,fG,rfl,dR,aj⟩:=hrel;obtain⟨av,cj,rfl⟩:=aj.row.shape;have O:=aa aj;have bg:=aa dR;clear aj dR;have aZ:Hid (ao aO wr):=O.out.st.gq;have ak:=aa (bq.out.below O.out.st.below);by_cases hj:j<sz
    ·have aQ:=ak.out.cl 0;have a4:=ak.out.lt;change wr.cell? ⟨bA,0,none⟩=some (ag (some ⟨rb,e7,none⟩) G.length aY)at aQ;obtain⟨cf,cg⟩:=d9.out _ aZ.out;obtain⟨fW,fX,rfl,dA⟩:=ec.out j (by rw[bL.out];exact hj);obtain⟨eI,dh,di⟩:=dA _ aZ.out;have w3:(j:Int)<(sz:Int):=by omega
     have f2:(0:Int)<=(j:Int):=by omega
     have d5:(0:Int)<=(i:Int):=by omega
     have fc:(i:Int)<(G.length:Int):=by omega
     have cN:=ea.out j hj;have eE:=aa (eC.out seen j O.out.sn hj);have dE:(pr.rs.getD i [])[j]'(by rw[bL.out];exact hj)=(pr.rs.getD i []).getD j (-1,0):=(getD_at (by rw[bL.out];exact hj)).symm;rw[dE]at dh di;generalize dT:(pr.rs.getD i []).getD j (-1,0)=q at*;obtain⟨bz,bX⟩:=q;have en:=aa dT;have bm:=aa (Has.new wr #[af ae bz,af ae bX] 43);have aT:=aa (O.out.alloc (.cells #[af ae bz,af ae bX] 43));clear dE dA dT;go_upto_region 18 with fail;generalize wr.alloc (.cells #[af ae bz,af ae bX] 43)=bG at*;generalize wr.heap.size=xb at*;clear aQ a4 cf cg eI dh di O ak aZ;have am:=bm.out.cl 0;have ax:=bm.out.cl 1;have bV:=bm.out.lt;change bG.cell? ⟨xb,0,none⟩=some (af ae bz)at am;change bG.cell? ⟨xb,1,none⟩=some (af ae bX)at ax;by_cases e1:bz<0
     ·go_wp2_with fail;go_roundw;case rel=>exact⟨j+1,aV,seen,by omega,by go_num,bg.out,aT.out.skip⟩
      case measure=>simp[intOf];omega
     ·obtain⟨t,k,dv,-,bT,a3,co,-⟩:=cN.resolve_left e1;simp only[jg]at dv;obtain⟨rfl,rfl⟩:=dv;have aZ:Hid (ao aO bG):=aT.out.st.gq;obtain⟨cs,hs,he⟩:=eG.out;obtain⟨b,off,dm,dt,dk,dr,rfl,bv,a2⟩:=ed hs he t bT;have cV:=aa bv;have cQ:=aa a2;obtain⟨d0,aL,aM,aN⟩:=a2 bG aZ.out;clear bv a2 hs he;obtain⟨e3,e4,_,_,_,_,rfl,-,cC⟩:=ed ep.out ei.out j (by rw[cU.out];exact hj);have c9:=aa cC;have n0:=(cC bG (fun b c hc=>aT.out.st.I b c (bg.out b c hc))).1;have dU:(ta.getD t default).size=ta[t].size:=by rw[getD_at bT]
      have cz:=(aB.out.at bT).size;rw[dU]at a3 cz;have ff:=aa a3;have bI:=aa cz;have cu:k<(fO ta[t]).length:=by rw[r3];exact a3
      have ct:j<ns.length:=by rw[cU.out];exact hj
      have c8:Hid ((fO ta[t])[k].kind=ns[j].kind):=by rw[eA.out,getD_at bT,uC,jB,jB,aE cu,aE ct]at co;exact aU co
      have cS:=aa cu;have g1:decide ((ta.length:Int)<=(t:Int))=false:=by simp;omega
      have g2:decide ((k:Int)<0)=false:=by simp
      have eM:decide ((ta[t].size:Int)<=(k:Int))=false:=by simp;omega
      have eN:decide (ta.length<=t)=false:=by simp;omega
      have eO:decide (ta[t].size<=k)=false:=by simp;omega
      have fd:(0:Int)<=(t:Int):=by omega
      have fZ:(t:Int)<(ta.length:Int):=by omega
      have fe:(0:Int)<=(k:Int):=by omega
      have fQ:=aB.out.1;clear cC dU cz a3 co cN aZ;go_upto_region 19 with fail;generalize dQ:ns[j].kind=e2 at*;have ek:=aa dQ;clear dQ;refine wp_region_noPanic ?_;refine wp_region_held_drew (S:=(fun w'=>w'.cell? ⟨xb,0,none⟩=some (af ae t)/\w'.cell? ⟨xb,1,none⟩=some (af ae k)/\w'.cell? ⟨b,off+t*4,none⟩=some (af ae ta[t].kind)/\w'.cell? ⟨b,off+t*4+1,none⟩=some (.string ta[t].text)/\w'.cell? ⟨b,off+t*4+2,none⟩=some (ag dm ta[t].leads.length dt)/\w'.cell? ⟨b,off+t*4+3,none⟩=some (ag dk ta[t].kids.length dr)/\w'.cell? ⟨e3,e4+j*4,none⟩=some (af ae e2))) (by kernel_rfl) ?_ (fun fy=> ?_);·exact⟨am,ax,d0,aL,aM,aN,n0⟩
      simp only[Array.replicate,List.replicate,List.size_toArray,bF,cL,Nat.zero_add,Nat.reduceAdd]
      iterate 18
       refine nF (v:= ?_) 0 rfl (by kernel_rfl) (fun _ _ _ h=>h) (by rfl) (by assumption) ?_ ?_
       rotate_left
       ·intro w ab;(try dsimp only at ab);simp only[nx];go_simp<;>with_reducible rfl
       simp only[nx,br,eV,dV,dJ,bh,nu,bf]
      refine zx (rs:=[18]) (by kernel_rfl) (by simp) ?_;refine zy (o:=_) rfl (fun K hK=> ?_) Bi;go_simp;go_at_call 8;refine(Mc 1000000 aV _ aT.out.drew.st.I _ ta[t] (cV.out.mono aT.out.st.le) (by have:=bI.out;omega) (by have:=bI.out;omega)).mono ?_;rintro e bC ⟨rfl,ch⟩;have a1:=aa (aT.out.drew.same ch);have bp:=aa (bm.out.drew.below ch);have am:bC.cell? ⟨xb,0,none⟩=some (af ae t):=bp.out.cl 0;have ax:bC.cell? ⟨xb,1,none⟩=some (af ae k):=bp.out.cl 1;have bV:=bp.out.lt;obtain⟨d0,aL,aM,aN⟩:=cQ.out bC a1.out.st.gq;have n0:=(c9.out bC (fun b c hc=>a1.out.st.I b c (bg.out b c hc))).1;clear ch;refine hK.out _ _ ?_ (fun _=> ?_);·exact⟨am,ax,d0,aL,aM,aN,n0⟩
      clear hK K;try simp only[bh,nu,bf]
      iterate 8
       refine nF (v:= ?_) 19 rfl (by kernel_rfl) (fun _ _ _ h=>h) (by rfl) (by assumption) ?_ ?_
       rotate_left
       ·intro w ab;(try dsimp only at ab);simp only[nx];go_simp<;>with_reducible rfl
       simp only[nx,br,eV,dV,dJ,bh,nu,bf]
      iterate 5
       refine nF (v:= ?_) 33 rfl (by kernel_rfl) (fun _ _ _ h=>h) (by rfl) (by assumption) ?_ ?_
       rotate_left
       ·intro w ab;(try dsimp only at ab);simp only[nx];go_simp<;>with_reducible rfl
       simp only[nx,br,eV,dV,dJ,bh,nu,bf]
      iterate 2
       refine nF (v:= ?_) 28 rfl (by kernel_rfl) (fun _ _ _ h=>h) (by rfl) (by assumption) ?_ ?_
       rotate_left
       ·intro w ab;(try dsimp only at ab);simp only[nx];go_simp<;>with_reducible rfl
       simp only[nx,br,eV,dV,dJ,bh,nu,bf]
      refine zx (rs:=[27]) (by kernel_rfl) (by simp) ?_;refine zy (o:=_) rfl (fun K hK=> ?_) Bi;go_simp;go_at_call 16;refine(L9 1000000 ta[t] (by have:=bI.out;omega) aV _ a1.out.st.I _ (cV.out.mono a1.out.st.le) (by have:=bI.out;omega)).mono ?_;rintro e bE ⟨f1,rfl,dG,ba,e9⟩;obtain⟨du,cw,dO⟩:=e9;obtain⟨dn,fr,rfl,fR⟩:=cw.shape;obtain⟨fT,fU,_,_,_,_,rfl,-,d1⟩:=ed cw dO k cS.out;have dX:=(d1 bE ba.I).1;rw[c8.out]at dX;have e0:(k:Int)<((fO ta[t]).length:Int):=(by have:=cS.out;omega);have Y:=aa (a1.out.call ba);have aP:=aa (bp.out.below ba.below);have am:bE.cell? ⟨xb,0,none⟩=some (af ae t):=aP.out.cl 0;have ax:bE.cell? ⟨xb,1,none⟩=some (af ae k):=aP.out.cl 1;have bV:=aP.out.lt;obtain⟨d0,aL,aM,aN⟩:=cQ.out bE Y.out.st.gq;have n0:=(c9.out bE (fun b c hc=>Y.out.st.I b c (Hp.le_trans bg.out ba.le b c hc))).1;have eB:=aa (Hp.le_trans bg.out ba.le);clear ba cw dO d1;refine hK.out _ _ ?_ (fun _=> ?_);·exact⟨am,ax,d0,aL,aM,aN,n0⟩
      clear hK K;try simp only[bh,nu,bf]
      iterate 2
       refine nF (v:= ?_) 30 rfl (by kernel_rfl) (fun _ _ _ h=>h) (by rfl) (by assumption) ?_ ?_
       rotate_left
       ·intro w ab;(try dsimp only at ab);simp only[nx];go_simp<;>with_reducible rfl
       simp only[nx,br,eV,dV,dJ,bh,nu,bf]
      refine zx (rs:=[32]) (by kernel_rfl) (by simp) ?_;refine zy (o:=_) rfl (fun K hK=> ?_) Bi;go_simp;refine hK.out _ _ ?_ (fun _=> ?_);·exact⟨am,ax,d0,aL,aM,aN,n0⟩
      clear hK K;try simp only[bh,nu,bf]
      iterate 2
       refine nF (v:= ?_) 38 rfl (by kernel_rfl) (fun _ _ _ h=>h) (by rfl) (by assumption) ?_ ?_
       rotate_left
       ·intro w ab;(try dsimp only at ab);simp only[nx];go_simp<;>with_reducible rfl
       simp only[nx,br,eV,dV,dJ,bh,nu,bf]
      refine wpAnyH_done (by kernel_rfl) ?_ _;refine Ci ?_;have eZ:seen.length<=2000:=by have:=Y.out.ln;omega
      have eP:(0:Int)<=(t:Int):=fd;clear d0 aL aM aN n0 dX g1 g2 eM eN eO e0 c8 ek cu ct a1 bp aT bm;go_wp2_with fail;go_loopw[17] (fun s bd=>∃(s0:Nat),s0<=seen.length/\s=af ae s0/\fN aO wp G pr i j dG bd (ag av seen.length cj) seen/\Has bd xb #[af ae t,af ae k]) (fun s _=>seen.length-(intOf s).toNat);case atStart=>exact⟨0,aW _,rfl,Y.out,aP.out⟩
      case round=>
       obtain⟨s,bS,rfl,d4,bH⟩:=hrel;clear am ax bV Y aP;have Y:=aa d4;have aP:=aa bH;have am:=bH.cl 0;have ax:=bH.cl 1;have bV:=bH.lt;change wr.cell? ⟨xb,0,none⟩=some (af ae t)at am;change wr.cell? ⟨xb,1,none⟩=some (af ae k)at ax;clear d4 bH;by_cases hs:s<seen.length
       ·obtain⟨g,rfl,fC,fE,fD,cn,-⟩:=Y.out.row.cell (by omega);obtain⟨dC,dD⟩:=mE seen s hs;have f4:=cn _ _ dC;have f5:=cn _ _ dD;have nq:=eE.out _ (List.getElem_mem hs);generalize seen[s]=q at*;obtain⟨a,b'⟩:=q;have aS:(s:Int)<(seen.length:Int):=by omega
        have f3:(0:Int)<=(s:Int):=by omega
        clear dC dD cn;by_cases h:a=(t:Int)
        ·have eL:(a==(t:Int))=true:=by simp[h]
         have fv:(b'==(k:Int))=false:=by rw[beq_eq_false_iff_ne];exact fun e=>nq (by rw[h,e])
         have fg:=aa nq;clear nq h;go_wp2_with fail;go_quiet(fail);go_wp2_with fail;go_roundw;case rel=>exact⟨s+1,by omega,by go_num,Y.out.drewN _,aP.out.below ((aD _ _).drewN _)⟩
         case measure=>simp[intOf];omega
        ·have eL:(a==(t:Int))=false:=by rw[beq_eq_false_iff_ne];exact h
         clear nq h;go_wp2_with fail;go_quiet(fail);go_wp2_with fail;go_roundw;case rel=>exact⟨s+1,by omega,by go_num,Y.out.drewN _,aP.out.below ((aD _ _).drewN _)⟩
         case measure=>simp[intOf];omega
       ·obtain rfl:s=seen.length:=by omega
        have aS:¬((seen.length:Int)<(seen.length:Int)):=by omega
        go_wp2_with(at_builtin;refine ft EW rfl _ _ rfl (St.dN (B:=wp.heap.size) (Y.out.alloc _).st.I (by have:=Y.out.st.size;simp;omega)) (ag av seen.length cj) seen.length _ rfl (Y.out.alloc _).row ⟨wr.heap.size,0,none⟩ 1 1 [af ae t,af ae k] rfl (by rfl) (cK _ _ _ _ rfl) (cm _ rfl) (by omega) ?_;intro f0 bC e8 d2 dF eJ;have eF:=aa ((Y.out.alloc _).next en.out eP d2 dF);clear e8 d2 dF eJ);go_roundw;case rel=>exact⟨j+1,dG,seen++[((t:Int),(k:Int))],by omega,by go_num,eB.out,eF.out⟩
        case measure=>simp[intOf];omega
    ·obtain rfl:j=sz:=by omega
     have w3:¬((j:Int)<(j:Int)):=by omega
     go_wp2_with fail;go_roundw;case rel=>exact⟨i+1,aV,seen,by omega,by go_num,O.out.Mw ey.out.symm (by omega)⟩
     case measure=>simp[intOf];omega
  ·obtain rfl:i=G.length:=by omega
   have d5:¬((G.length:Int)<(G.length:Int)):=by omega
   have b0:Hid (Below w.heap.size w wr):=cG.out.trans (O.out.st.below.mono cG.out.size);go_wp2_with fail;refine(vg T N _ (bO.out.below (b0.out.mono bO.out.1))).mono ?_;rintro e wz ⟨rfl,ci⟩;have d7:Hid (Below w.heap.size w wz):=b0.out.trans (ci.mono b0.out.size);have ce:=aa (ak.out.below ci);clear ci;have e5:=ce.out.cl 1;have e6:=ce.out.cl 2;have a4:=ce.out.lt;change wz.cell? ⟨bA,1,none⟩=some (af ae a8)at e5;change wz.cell? ⟨bA,2,none⟩=some (af ae a5)at e6;have hd:=eb.out;go_wp2_with fail;go_ret;exact⟨rfl,d7.out⟩
end Go.Proofs.YtdplggpbgommnaaGreatDoor
