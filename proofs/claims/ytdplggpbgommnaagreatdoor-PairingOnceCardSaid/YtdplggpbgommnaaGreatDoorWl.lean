/- matching.least. -/
import Derived.Test.YtdplggpbgommnaaGreatDoorWh
import Derived.Test.YtdplggpbgommnaaGreatDoorG09
import Derived.Test.YtdplggpbgommnaaGreatDoorG05
open Bool renaming and_eq_true->cy
open Go.Addr.mk renaming injEq->cx
open Go.Instr renaming lookup->mn
open Go.IntKind renaming i64->ae
open Go.Lib renaming hid->aa
open Go.Obj renaming cells->au
open Go.Proofs.Tryz renaming prog->ai,underlying217->sF
open Go.RowKit.Below renaming heap_alloc->fp
open Go.Value renaming bool->ay,int->af,ownBlock->bW,slice->ag
open Go.Value.agg renaming injEq->oG
open Go.Value.slice renaming injEq->bU
open Go.World renaming cell?_alloc_at->cJ,cell?_alloc_past->eg,drew->q1
open Go.World.grownBy renaming refl->kC
open List renaming append_assoc->fI,drop_length->K2,length_take->mb
open Nat renaming add_zero->dz,le_refl->kI,zero_add->cO
open Option.some renaming injEq->aC
set_option maxRecDepth 100000
set_option maxHeartbeats 4000000
namespace Go.Proofs.YtdplggpbgommnaaGreatDoor
open Go.RowKit
def vA:List Value:=[af ae 0,af ae 0,af ae 0,ag none 0 0,af ae 0,ag none 0 0]
structure qs(h:Hp)(w0:World)(x y:List aB)(l:List (Int×Int))(g:Nat)(i:Nat)(hi:Hp)(wr:World)(zs es:List Value):Prop where
 st:St w0.heap.size h w0 hi wr
 J4:∃ld,fy wr w0.heap.size ld/\∀q,(fT ld q).getD (af ae 0)=af ae (bG (aQ x y (l.drop i)) q)
 Bp:∃li,fy wr (w0.heap.size+1) li/\∀k (hk:k<l.length),i<=k->fT li l[k]=some (af ae k)
 hd:hi w0.heap.size=none/\hi (w0.heap.size+1)=none
 own:Ow wr hi w0.heap.size 140 6 (ag (some ⟨g,0,none⟩) l.length l.length) l.length (zs++es)
 zl:zs.length=i*6
 enc:aJ (kN hi) (aQ x y (l.drop i)) es
 gg:w0.heap.size+2<=g
theorem J5{zs es:List Value}{i:Nat}(hz:zs.length=(i+1)*6)(a b c d e f:Value):((((((zs++es).set (i*6) a).set (i*6+1) b).set (i*6+2) c).set (i*6+3) d).set (i*6+4) e).set (i*6+5) f=zs.take (i*6)++([a,b,c,d,e,f]++es):=by
 have h1:(zs.take (i*6)).length=i*6:=by rw[mb];omega
 have h2:(zs.drop (i*6)).length=6:=by rw[List.length_drop];omega
 have G:zs=zs.take (i*6)++zs.drop (i*6):=(List.take_append_drop _ _).symm;generalize zs.take (i*6)=ao at*;generalize zs.drop (i*6)=J at*;subst G
 match J,h2 with
 |[O,Y,ab,aj,ak,am],_=>rw[<-h1,fI];simp[List.set_append_right]
theorem J6(W:World):W.drew.heap=W.heap:=rfl
theorem qs.next{h:Hp}{w0:World}{x y:List aB}{l:List (Int×Int)}{g j:Nat}{a3:Hp}{wr:World}{zs es:List Value}(L:qs h w0 x y l g (j+1) a3 wr zs es)(a4:j<l.length)(a9:l.Nodup){p:Int×Int}(aj:l[j]=p){h2:Hp}{J:World}{A:jr}{ap ar:Option Addr}{cp cr:Nat}(hp:aG p.1/\aG p.2)(hc:aG (cZ (nd x p.1).text (nd y p.2).text+A.cost))(aV:e0 (bL x p.1) (bL y p.2) (eA x y p (bG (aQ x y (l.drop (j+1)))))=A)(a1:aG A.cost)(aO:jp h2 (ag ap A.aR.length cp) A.aR)(aP:gP h2 (ag ar A.bM.length cr) A.bM)(aZ:St w0.heap.size h w0 h2 J)(aY:Ow J h2 w0.heap.size 140 6 (ag (some ⟨g,0,none⟩) l.length l.length) l.length (zs++es))(Y:h2 g=none)(aX:h2 w0.heap.size=none/\h2 (w0.heap.size+1)=none){aL aM:List ((Int×Int)×Value)}(a8:fy J w0.heap.size (iq aL p (af ae (cZ (nd x p.1).text (nd y p.2).text+A.cost))))(a5:fy J (w0.heap.size+1) (iq aM p (af ae j)))(aS:∀q,(fT aL q).getD (af ae 0)=af ae (bG (aQ x y (l.drop (j+1))) q))(aT:∀k (am:k<l.length),j+1<=k->fT aM l[k]=some (af ae k))(aN:aJ (kN h2) (aQ x y (l.drop (j+1))) es):
  qs h w0 x y l g j h2 ((((((J.setCell ⟨g,j*6,none⟩ (af ae p.1)).setCell ⟨g,j*6+1,none⟩ (af ae p.2)).setCell ⟨g,j*6+2,none⟩ (af ae (cZ (nd x p.1).text (nd y p.2).text+A.cost))).setCell ⟨g,j*6+3,none⟩ (ag ap A.aR.length cp)).setCell ⟨g,j*6+4,none⟩ (af ae A.cost)).setCell ⟨g,j*6+5,none⟩ (ag ar A.bM.length cr)).drew (zs.take (j*6)) ([af ae p.1,af ae p.2,af ae (cZ (nd x p.1).text (nd y p.2).text+A.cost),ag ap A.aR.length cp,af ae A.cost,ag ar A.bM.length cr]++es):=by
 have ba:=L.gg;have bd:j*6+6<=l.length*6:=by omega
 have own:=(((((aY.set (j*6) (af ae p.1) (by omega)).set (j*6+1) (af ae p.2) (by omega)).set (j*6+2) (af ae (cZ (nd x p.1).text (nd y p.2).text+A.cost)) (by omega)).set (j*6+3) (ag ap A.aR.length cp) (by omega)).set (j*6+4) (af ae A.cost) (by omega)).set (j*6+5) (ag ar A.bM.length cr) (by omega);rw[J5 L.zl]at own;have st:=(((((aZ.setCell (p:=⟨g,j*6,none⟩) (by show w0.heap.size<=g;omega) Y (af ae p.1)).setCell (p:=⟨g,j*6+1,none⟩) (by show w0.heap.size<=g;omega) Y (af ae p.2)).setCell (p:=⟨g,j*6+2,none⟩) (by show w0.heap.size<=g;omega) Y (af ae (cZ (nd x p.1).text (nd y p.2).text+A.cost))).setCell (p:=⟨g,j*6+3,none⟩) (by show w0.heap.size<=g;omega) Y (ag ap A.aR.length cp)).setCell (p:=⟨g,j*6+4,none⟩) (by show w0.heap.size<=g;omega) Y (af ae A.cost)).setCell (p:=⟨g,j*6+5,none⟩) (by show w0.heap.size<=g;omega) Y (ag ar A.bM.length cr);have O:∀(W:World) b i u,b≠g->(W.setCell ⟨g,i,none⟩ u).heap[b]? =W.heap[b]? :=fun W b i u G=>Below.heap_setCell _ _ _ _ G;have ao:∀b,b≠g->((((((J.setCell ⟨g,j*6,none⟩ (af ae p.1)).setCell ⟨g,j*6+1,none⟩ (af ae p.2)).setCell ⟨g,j*6+2,none⟩ (af ae (cZ (nd x p.1).text (nd y p.2).text+A.cost))).setCell ⟨g,j*6+3,none⟩ (ag ap A.aR.length cp)).setCell ⟨g,j*6+4,none⟩ (af ae A.cost)).setCell ⟨g,j*6+5,none⟩ (ag ar A.bM.length cr)).drew.heap[b]? =J.heap[b]? :=fun b G=>by rw[J6,O _ _ _ _ G,O _ _ _ _ G,O _ _ _ _ G,O _ _ _ _ G,O _ _ _ _ G,O _ _ _ _ G]
 have a2:hT x y p (bG (aQ x y (l.drop (j+1))))=⟨p.1,p.2,cZ (nd x p.1).text (nd y p.2).text+A.cost,A⟩:=by rw[<-aV];rfl
 have ab:=xK x y l j a4;rw[aj,a2]at ab;refine⟨st.drew,⟨_,a8.keep (ao _ (by omega)),fun q=> ?_⟩,⟨_,a5.keep (ao _ (by omega)),fun k am bg=> ?_⟩,aX,own.drew,by rw[mb,L.zl];omega,?_,L.gg⟩
 ·rw[qX,ab,ra];by_cases ak:q=p;·subst ak;simp
  ·rw[if_neg ak,if_neg (fun e=>ak e)];exact aS q
 ·rw[qX];by_cases ax:k=j;·subst ax;rw[if_pos aj]
  ·rw[if_neg (fun e=>ax ((List.getElem_inj a9).1 (e.trans aj.symm)))];exact aT k am (by omega)
 ·rw[ab];refine⟨_,_,rfl,⟨_,rfl,?_,?_,?_,ap,cp,ar,cr,rfl,a1,aO,aP⟩,aN⟩;·exact hp.1
  ·exact hp.2
  ·exact hc
theorem KV.alloc{h:Hp}{w G:World}{g:Nat}{v:Value}{m:List (Int×Int)}{w2:World}(r:KV h w G g v m w2)(o:Obj):KV h w G g v m (w2.alloc o):=
 ⟨r.st.alloc o,r.own.alloc o,mD r.grown o,r.bi⟩
theorem Ep(h:Hp)(w:World)(ak:ao h w)(fG fN vl:Value)(x y:List aB)(l:List (Int×Int))(hx:gy h fG x)(hy:gy h fN y)(cX:WF x)(cY:WF y)(nx:ct x=true)(cn:ct y=true)(fg:jp h vl l)(ft:l.Nodup)(e7:∀p∈l,bZ x y p)(dF:(0,0)∈l)(e4:∀p∈l,∀q∈kp x y p,q∈l)(i1:l.length<=1000000000000):Calls ai 106 #[fG,fN,vl] w fun e w'=>∃v,e= .returned v/\∃h',St w.heap.size h w h' w'/\Lk h' v (iO x y l):=by
 have d1:x.length<=262144:=by unfold ct at nx;simp only[cy,decide_eq_true_eq]at nx;exact nx.1
 have d2:y.length<=262144:=by unfold ct at cn;simp only[cy,decide_eq_true_eq]at cn;exact cn.1
 have cc:0<l.length:=List.length_pos_of_mem dF;have gA:=aa hx;have gB:=aa hy;obtain⟨bx,ba,iy,rfl,ja,fx⟩:=hx.gA cX.pos;obtain⟨aN,bd,iz,rfl,jc,fy⟩:=hy.gA cY.pos;obtain⟨al,ip,rfl,i3,ch⟩:=fg.open;have cu:=aa (fun w' ak=>fx w' ak);have cv:=aa (fun w' ak=>fy w' ak);have f5:=aa (fun w' ak=>ch w' ak);have dg:=aa ak;have bY:=aa cX;have b0:=aa cY;have eB:=aa nx;have eC:=aa cn;have hB:=cX.pos;have hC:=cY.pos;have di:=aa ft;have el:=aa e7;have ge:=aa dF;have f3:=aa e4;have bO:Hid (ao h (w.alloc (au #[ag none 0 0,af ae 0,ay false,af ae 0,ag none 0 0] 76))):=dg.out.alloc _;clear hx hy fg fx fy ch cX cY nx cn ak ft e7 dF e4;have i4:∀W:World,(Instr.makeMap 217 none).run ai W= .ok (.map (some W.heap.size)) (W.alloc (.map #[] 0)):=fun W=>rfl;go_in;go_upto_region 3 with fail;have hz:(w.alloc (au #[ag none 0 0,af ae 0,ay false,af ae 0,ag none 0 0] 76)).heap.size=w.heap.size+1:=by simp
 rw[<-hz];have en:=aa hz;clear hz;generalize e3:w.alloc (au #[ag none 0 0,af ae 0,ay false,af ae 0,ag none 0 0] 76)=w0 at*;have ax:=aa e3;clear e3;go_wp2_with(at_make;refine jk Dp rfl _ _ rfl (((St.refl bO.out).alloc _).alloc _) ae ae _ _ l.length rfl rfl rfl rfl (by omega) ?_;intro w3 fF dR dA);generalize eZ:w0.heap.size+1+1=g
 have er:qs h w0 x y l g l.length h w3 (madeCells vA.toArray (l.length*6)).toList []:=by
  have hz:((w0.alloc (.map #[] 0)).alloc (.map #[] 0)).heap.size=w0.heap.size+2:=by simp
  rw[hz]at dR;refine⟨fF,⟨[],(((th w0).keep (fp _ _ _ (by simp))).keep (dA.block _ (by rw[hz];omega) (by simp))),fun q=> ?_⟩,⟨[],?_,fun k J i2=>by omega⟩,⟨bI bO.out _ (by omega),bI bO.out _ (by omega)⟩,?_,?_,?_,by omega⟩;·rw[K2];rfl
  ·have:=(th (w0.alloc (.map #[] 0))).keep (dA.block _ (by simp) (by simp));simpa using this
  ·rw[<-eZ];simpa[vA]using dR
  ·simp[vA,size_madeCells]
  ·rw[K2];simp[aQ,aJ]
 have gw:=aa er;have iW:w0.heap.size+2<=g:=by omega
 clear er fF dR dA eZ;go_loopw[10] (fun i wr=>∃(k:Nat) (ak:Hp) (zs es:List Value),k<=l.length/\i=af ae ((k:Int)-1)/\qs h w0 x y l g k ak wr zs es) (fun i _=>(intOf i+1).toNat);case atStart=>exact⟨l.length,h,_,_,kI _,rfl,gw.out⟩
 case round=>
  obtain⟨k,ak,zs,es,J,rfl,L⟩:=hrel;by_cases a4:k=0
  case neg=>
   obtain⟨j,rfl⟩:∃j,k=j+1:=⟨k-1,by omega⟩
   have cF:((j+1:Nat):Int)-1=(j:Int):=by omega
   rw[cF];clear cF a4;have a5:j<l.length:=by omega
   obtain⟨bl,jN,rfl,bC,ch⟩:=f5.out wr L.st.gq cc;obtain⟨d0,iB⟩:=ch j a5;have dk:=aa (el.out l[j] (by simp));have h0:=aa (xK x y l j a5);clear ch;generalize e1:l[j]=p at*;have f4:=aa e1;clear e1;have d7:Hid (∀q,0<=bG (aQ x y (l.drop (j+1))) q/\bG (aQ x y (l.drop (j+1))) q<=524288):=tO bY.out b0.out d1 d2 (tQ bY.out b0.out eB.out eC.out _ (fun q Y=>el.out q (List.mem_of_mem_drop Y)));have aL:=aa L;obtain⟨dT,dU,dW,dX⟩:=dk.out;clear L;go_upto_region 8 with fail;obtain⟨ht,MD,ed⟩:=aL.out.J4;obtain⟨fA,bm,bJ⟩:=aL.out.Bp;have bR:=aa MD;have ei:=aa ed;have bp:=aa bm;have c8:=aa bJ;clear MD ed bm bJ;go_wp2_with fail;refine(DV ak _ (aL.out.st.I.alloc _) _ _ x y p _ ht (bG (aQ x y (l.drop (j+1)))) (gA.out.mono aL.out.st.le) (gB.out.mono aL.out.st.le) bY.out b0.out d1 d2 dk.out (bR.out.keep (fp _ _ _ bR.out.lt)) (fun q=>⟨ei.out q,by have:=d7.out q;unfold aG;omega⟩)).mono ?_;rintro e w1 ⟨hO,hP,jU,rfl,h1,eF,eo,ep,eE⟩;have aM:=aa eF;have gm:=aa eo;have gp:=aa ep;have gG:=aa eE;have cw:=aa (tP bY.out b0.out eB.out eC.out dk.out _ d7.out);clear eF eo ep eE;go_wp2_with fail;refine(J1 h1 _ aM.out.I _ _ _ _ _ _ gm.out gp.out gG.out cw.out).mono ?_;rintro e w2 ⟨cs,rfl,h2,eG,fY⟩;obtain⟨ap,cp,ar,cr,rfl,gR,d8,d9⟩:=fY;have aS:=aa eG;have fZ:=aa d8;have f0:=aa d9;clear eG d8 d9;generalize hA:e0 (bL x p.1) (bL y p.2) (eA x y p (bG (aQ x y (l.drop (j+1)))))=A at*;have ek:=aa hA;clear hA;go_upto_region 10 with fail;have d4:wr.heap.size<w1.heap.size:=by have:=aM.out.below.size;simp at this;omega
   have hY:w1.heap.size<=w2.heap.size:=aS.out.below.size;have dt:Hid (St w0.heap.size h w0 h2 (w2.alloc (au #[ag ap A.aR.length cp,af ae A.cost,ag ar A.bM.length cr] 138))):=((((aL.out.st.alloc _).call aM.out).call aS.out).alloc _)
   have gD:Hid (Ow (w2.alloc (au #[ag ap A.aR.length cp,af ae A.cost,ag ar A.bM.length cr] 138)) h2 w0.heap.size 140 6 (ag (some ⟨g,0,none⟩) l.length l.length) l.length (zs++es)):=((((aL.out.own.alloc _).call aM.out).call aS.out).alloc _)
   have dP:∀b,b<wr.heap.size->(w2.alloc (au #[ag ap A.aR.length cp,af ae A.cost,ag ar A.bM.length cr] 138)).heap[b]? =wr.heap[b]? :=fun b aO=>by rw[fp _ _ _ (by omega),aS.out.below.block b (by omega),aM.out.below.block b (by simp;omega),fp _ _ _ aO]
   have ey:=aa (bR.out.keep (dP _ bR.out.lt));have gx:=aa (bp.out.keep (dP _ bp.out.lt));have du:(w2.alloc (au #[ag ap A.aR.length cp,af ae A.cost,ag ar A.bM.length cr] 138)).cell? ⟨wr.heap.size,0,none⟩=some (af ae p.1):=by rw[eg _ _ _ (by show wr.heap.size<_;omega),aS.out.below.cell (by show wr.heap.size<_;omega),aM.out.below.cell (by simp),cJ _ _ _ _ rfl];rfl
   have b1:(w2.alloc (au #[ag ap A.aR.length cp,af ae A.cost,ag ar A.bM.length cr] 138)).cell? ⟨wr.heap.size,1,none⟩=some (af ae p.2):=by rw[eg _ _ _ (by show wr.heap.size<_;omega),aS.out.below.cell (by show wr.heap.size<_;omega),aM.out.below.cell (by simp),cJ _ _ _ _ rfl];rfl
   have a0:(w2.alloc (au #[ag ap A.aR.length cp,af ae A.cost,ag ar A.bM.length cr] 138)).cell? ⟨w2.heap.size,0,none⟩=some (ag ap A.aR.length cp):=by rw[cJ _ _ _ _ rfl];rfl
   have eH:(w2.alloc (au #[ag ap A.aR.length cp,af ae A.cost,ag ar A.bM.length cr] 138)).cell? ⟨w2.heap.size,1,none⟩=some (af ae A.cost):=by rw[cJ _ _ _ _ rfl];rfl
   have eI:(w2.alloc (au #[ag ap A.aR.length cp,af ae A.cost,ag ar A.bM.length cr] 138)).cell? ⟨w2.heap.size,2,none⟩=some (ag ar A.bM.length cr):=by rw[cJ _ _ _ _ rfl];rfl
   have d5:(w2.alloc (au #[ag ap A.aR.length cp,af ae A.cost,ag ar A.bM.length cr] 138)).heap.size=w2.heap.size+1:=by simp
   have h3:Hid ((w2.alloc (au #[ag ap A.aR.length cp,af ae A.cost,ag ar A.bM.length cr] 138)).heap.size=w2.heap.size+1):=d5;have fX:Hid (aJ (kN h2) (aQ x y (l.drop (j+1))) es):=aL.out.enc.mono fun _ _ q=>(q.mono aM.out.le).mono aS.out.le
   have c9:Hid (h2 w0.heap.size=none/\h2 (w0.heap.size+1)=none):=by
    have r1:=bR.out.lt;have r2:=bp.out.lt;have bH:=aL.out.hd;refine⟨?_,?_⟩;·rw[aS.out.aI _ (by omega),aM.out.aI _ (by simp;omega)];exact bH.1
    ·rw[aS.out.aI _ (by omega),aM.out.aI _ (by simp;omega)];exact bH.2
   have hZ:w0.heap.size+1<wr.heap.size:=bp.out.lt;clear dP;generalize g4:w2.alloc (au #[ag ap A.aR.length cp,af ae A.cost,ag ar A.bM.length cr] 138)=w3 at*;clear g4;obtain⟨iM,cj⟩:=cu.out w3 dt.out.gq;obtain⟨iP,cl⟩:=cv.out w3 dt.out.gq;obtain⟨eJ,cC,hQ,hT,hU,hV,hW,-,-,-,-⟩:=cj p.1 dT dU;obtain⟨eK,cD,fO,fP,fQ,fR,fU,-,-,-,-⟩:=cl p.2 dW dX;clear cj cl;have cV:wr.heap.size<w3.heap.size:=by omega
   have d3:w2.heap.size<w3.heap.size:=by omega
   have iR:=mM (nd x p.1).text (nd y p.2).text;have iJ:0<=A.cost/\A.cost<=838860800:=by rw[<-ek.out];have bH:=mK cw.out (bL x p.1).length (bL y p.2).length;have dY:=cw.out.dl;have dZ:=cw.out.al;simp only[e0];omega
   have bS:ae.wrap (cZ (nd x p.1).text (nd y p.2).text+A.cost)=cZ (nd x p.1).text (nd y p.2).text+A.cost:=bA (by omega);clear d5;have iN:bx<w0.heap.size:=(cu.out w0 bO.out).1;have iQ:aN<w0.heap.size:=(cv.out w0 bO.out).1
   go_region_held3(fun w'=>w'.cell? ⟨wr.heap.size,0,none⟩=some (af ae p.1)/\w'.cell? ⟨wr.heap.size,1,none⟩=some (af ae p.2)/\w'.cell? ⟨w2.heap.size,1,none⟩=some (af ae A.cost)/\
     w'.cell? ⟨bx,ba+p.1.toNat*5,none⟩=some (af ae (nd x p.1).kind)/\w'.cell? ⟨bx,ba+p.1.toNat*5+1,none⟩=some (.string (nd x p.1).text)/\w'.cell? ⟨bx,ba+p.1.toNat*5+2,none⟩=some (af ae (nd x p.1).parent)/\w'.cell? ⟨bx,ba+p.1.toNat*5+3,none⟩=some (ag eJ (nd x p.1).kids.length cC)/\w'.cell? ⟨bx,ba+p.1.toNat*5+4,none⟩=some (af ae (nd x p.1).size)/\
     w'.cell? ⟨aN,bd+p.2.toNat*5,none⟩=some (af ae (nd y p.2).kind)/\w'.cell? ⟨aN,bd+p.2.toNat*5+1,none⟩=some (.string (nd y p.2).text)/\w'.cell? ⟨aN,bd+p.2.toNat*5+2,none⟩=some (af ae (nd y p.2).parent)/\w'.cell? ⟨aN,bd+p.2.toNat*5+3,none⟩=some (ag eK (nd y p.2).kids.length cD)/\w'.cell? ⟨aN,bd+p.2.toNat*5+4,none⟩=some (af ae (nd y p.2).size))
    (first|go_keep|(go_split_ands;refine⟨?_,?_,?_,?_,?_,?_,?_,?_,?_,?_,?_,?_,?_⟩<;>first|(rw[aY.cell (by show _<w3.heap.size;assumption)];assumption)|(rw[(a3.cellOf (by show _<ab.heap.size;omega) (by simp only[ne_eq,aC];omega)).1,aY.cell (by show _<w3.heap.size;omega)];assumption)))
    (first|(go_at_call 150;refine(Ln _ _ _ _ _ _ _ _ _ _ _ _ _ _ _).mono ?_;rintro e ab ⟨rfl,aY⟩;have je:w3.heap.size<=ab.heap.size:=aY.size;obtain⟨cz,hl,dD,a3⟩:=(ey.out.keep (aY.block _ ey.out.lt)).qZ p (af ae (cZ (nd x p.1).text (nd y p.2).text+A.cost)) 217 3 sF))
   have dQ:∀b,b<w3.heap.size->b≠w0.heap.size->cz.heap[b]? =w3.heap[b]? :=fun b aO aZ=>by rw[a3.block b (by omega) (fun e=>by simp only[aC]at e;exact aZ e)];exact aY.block b aO
   have aV:=aa ((dt.out.drew.same aY).grown a3 (fun k J=>by simp only[aC]at J;subst J;exact⟨kI _,c9.out.1⟩));have hD:w0.heap.size+1<w3.heap.size:=by omega
   obtain⟨aX,ho,fj,bE⟩:=(gx.out.keep (dQ _ hD (by omega))).qZ p (af ae j) 217 3 sF;have j7:w3.heap.size<=cz.heap.size:=by have:=a3.size;omega
   have j8:cz.heap.size<=aX.heap.size:=bE.size;have c5:∀b i,b<w3.heap.size->b≠w0.heap.size->cz.cell? ⟨b,i,none⟩=w3.cell? ⟨b,i,none⟩:=fun b i aO aZ=>World.cell?_of_block (a:=⟨b,i,none⟩) (dQ b aO aZ);have bB:∀b i,b<w3.heap.size->b≠w0.heap.size->b≠w0.heap.size+1->aX.cell? ⟨b,i,none⟩=w3.cell? ⟨b,i,none⟩:=fun b i aO aZ dE=>by rw[(bE.cellOf (i:=i) (by omega) (by simp only[ne_eq,aC];omega)).1];exact c5 b i aO aZ
   have gV:=(c5 _ 0 cV (by omega)).trans du;have cF:=(c5 _ 1 cV (by omega)).trans b1;have iE:=(bB _ 0 cV (by omega) (by omega)).trans du;have iH:=(bB _ 1 cV (by omega) (by omega)).trans b1;have g0:=(bB _ 0 d3 (by omega) (by omega)).trans a0;have g1:=(bB _ 1 d3 (by omega) (by omega)).trans eH;have g2:=(bB _ 2 d3 (by omega) (by omega)).trans eI;have gJ:=aa (aV.out.grown bE (fun k J=>by simp only[aC]at J;subst J;exact⟨by omega,c9.out.2⟩));have dp:=aa (((gD.out.drew.same aY).grown a3 (fun q Y=>by simp only[bW,aC]at Y;subst Y;simp only[ne_eq,aC];omega)).grown bE (fun q Y=>by simp only[bW,aC]at Y;subst Y;simp only[ne_eq,aC];omega));have fr:=aa (dD.keep (bE.block _ (by have:=dD.lt;omega) (fun e=>by simp only[aC]at e;omega)));have hk:=aa fj;have fh:(mn 217 (.map (some w0.heap.size)) (.agg #[af ae p.1,af ae p.2]) false).run ai aX.drew= .ok (af ae (cZ (nd x p.1).text (nd y p.2).text+A.cost)) aX.drew:=by have:=fr.out.look p 217 3 (af ae 0) sF (fun _=>by kernel_rfl) aX.drew rfl;rw[qX,if_pos rfl]at this;exact this
   have i6:=dp.out.len;obtain⟨g',e6,jK,jL,hu,fB,a8⟩:=dp.out.cell cc;obtain rfl:g=g':=by simpa using e6
   have a9:∀k,k<6->∃u,aX.cell? ⟨g,j*6+k,none⟩=some u:=fun k J=>by
    have:j*6+k<(zs++es).length:=by omega
    exact⟨_,fB _ _ (List.getElem?_eq_getElem this)⟩
   obtain⟨jP,hE⟩:=a9 0 (by omega);obtain⟨bH,hG⟩:=a9 1 (by omega);obtain⟨dY,hH⟩:=a9 2 (by omega);obtain⟨dZ,hI⟩:=a9 3 (by omega);obtain⟨fD,hJ⟩:=a9 4 (by omega);obtain⟨jQ,jR⟩:=a9 5 (by omega);rw[dz]at hE;have ju:=a8 (j*6);have jv:=a8 (j*6+1);have jx:=a8 (j*6+2);have jy:=a8 (j*6+3);have jz:=a8 (j*6+4);have jA:=a8 (j*6+5);have jI:wr.heap.size<aX.heap.size:=by omega
   have jJ:w2.heap.size<aX.heap.size:=by omega
   have jS:(0:Int)<=(j:Int):=by omega
   have jT:(j:Int)<(l.length:Int):=by omega
   clear e6 a9 fB a8 dD fj dQ c5 bB aY a3 bE du b1 a0 eH eI hQ hT hU hV hW fO fP fQ fR fU;go_wp2_with fail;clear gV cF hl ho;refine wp_region_still_tail 12 (by kernel_rfl) (by kernel_rfl) ?_;simp only[List.take_succ_cons,List.take_zero,List.drop_succ_cons,List.drop_zero];change wpStill _ _ (q1 _) (fun a'=>wpList _ _ _ _ a' (q1 _)) _ _;repeat still_step
   refine wpStill_nil ?_;go_wp2_with fail;go_roundw;case rel=>exact⟨j,h2,_,_,by omega,rfl,aL.out.next a5 di.out f4.out (by unfold aG;omega) (by unfold aG;omega) ek.out gR fZ.out f0.out gJ.out dp.out hu c9.out fr.out hk.out ei.out c8.out fX.out⟩
   case measure=>simp[intOf]
  subst a4;obtain⟨w1,rfl⟩:∃w1:World,w1=wr:=⟨_,rfl⟩
  have hq:zs=[]:=List.eq_nil_of_length_eq_zero (by have:=L.zl;simpa using this);subst hq;have bC:(aQ x y l).length=l.length:=pV x y l
  have c6:mF (ak.fr w0.heap.size w1) (ag (some ⟨g,0,none⟩) l.length l.length) (aQ x y l):=by
   refine⟨es,?_,?_⟩;·rw[bC];have:=L.own.sl (by omega);simpa using this
   ·have:=L.enc.mono fun _ _ q=>q.mono (Hp.gQ (B:=w0.heap.size) L.st.I);simpa using this
  have eb:=L.st.fr;obtain⟨fA,bm,bJ⟩:=L.Bp;have bp:=aa bm;have c8:Hid (∀k (J:k<l.length),fT fA l[k]=some (af ae k)):=fun k J=>bJ k J (by omega);generalize ak.fr w0.heap.size w1=h1 at*;have a1:=aa eb;obtain⟨g',jM,il,dC,-,eY⟩:=c6.gA (by rw[bC];exact cc);rw[bC]at dC;simp only[bU,aC,cx,and_true,true_and]at dC;obtain⟨⟨rfl,rfl⟩,rfl⟩:=dC;have co:=aa (fun w' ak=>eY w' ak);have fV:=aa c6;have bN:=aa bC;have gq:=aa (rp bY.out b0.out l);have f2:=aa (oS (k:=ff x y (aQ x y l)) hB hC);have jb:x.length*y.length<=262144*262144:=Nat.mul_le_mul d1 d2;generalize e2:x.length*y.length=N at*;have dh:=aa e2;have d4:w0.heap.size+1<w1.heap.size:=bm.lt;clear L eb bm bJ c6 eY bC e2;go_wp2_with fail;go_loopw[17,18] (fun v i wr=>∃(j:Nat) (m:List (Int×Int)),i=af ae j/\St w1.heap.size h1 w1 h1 wr/\lO wr h1 w1.heap.size v m/\Good x y (ff x y (aQ x y l)) m j/\Hid (∀p∈m,p∈l)/\Hid (ez (ff x y (aQ x y l)) N (N+1-j) m j=ez (ff x y (aQ x y l)) N (N+1) [(0,0)] 0)) (fun _ i _=>N-(intOf i).toNat);case atStart=>exact⟨0,[(0,0)],rfl,(St.refl a1.out.I).alloc _,oP (w:=w1) a1.out.I (kI _) [af ae 0,af ae 0] 1 2 79 (by simp[maxLen]) rfl,f2.out,fun p hp=>(by simp only[List.mem_singleton]at hp;subst hp;exact ge.out),rfl⟩
  case round=>
   obtain⟨O,rfl⟩:∃O:World,O=wr:=⟨_,rfl⟩
   obtain⟨j,m,rfl,S,bq,a2,dn,R⟩:=hrel;have iY:=a2.le;have hh:=a2.len;rw[dh.out]at hh;by_cases a5:j<m.length
   ·obtain⟨cG,gQ,rfl,iT,a3,iU,ik,c1⟩:=bq.open j a5;obtain⟨dT,dU,dW,dX⟩:=a2.inr m[j] (by simp);have ej:=aa (pL gq.out a2 a5);have gi:Hid (m++ff x y (aQ x y l) m[j]=m++(iv (aQ x y l) m[j]).kids.aR.map (gC x y m[j])):=rfl;have gh:=aa (fun aO hf=>pM (k:=ff x y (aQ x y l)) (budget:=N) (f:=N+1-j) a5 aO hf);have em:=aa (dn.out m[j] (by simp))
    have gz:Hid (∀p∈m++ff x y (aQ x y l) m[j],p∈l):=fun q Y=>by
     rcases List.mem_append.1 Y with Y|Y;·exact dn.out q Y
     ·exact f3.out _ em.out q (rm l Y)
    generalize m[j]=p at*;obtain⟨aT,a4,cf⟩:=List.mem_iff_getElem.1 em.out;obtain⟨h6,ir,ia,ix,-,-,-,gW,-,-,eX,-⟩:=(co.out O S.I).2 aT (by rw[bN.out];exact a4);have iK:=(co.out O S.I).1;rw[ri di.out aT a4,cf,cO]at gW;rw[ri di.out aT a4,cf]at eX;obtain⟨cs,e5,h5,iq,h9,iw,hb,-,dm,-⟩:=eX;subst hb;simp only[oG]at e5;obtain⟨⟨rfl,rfl⟩,-⟩:=e5
    have f9:Hid (∀k∈(iv (aQ x y l) p).kids.aR,0<=k.1/\k.1<(nd x p.1).kids.length/\0<=k.2/\k.2<(nd y p.2).kids.length):=fun k J=>by
     rcases tX x y l p with h|⟨ps,_,h⟩;·rw[h,Ek]at J;simp at J
     ·rw[h]at J;obtain⟨bH,dY,dZ,fD,_⟩:=pW (x:=x) (y:=y) (p:=p) J;exact⟨bH,dY,dZ,fD⟩
    generalize(iv (aQ x y l) p).kids.aR=aP at*;have fh:(mn 217 (.map (some (w0.heap.size+1))) (.agg #[af ae p.1,af ae p.2]) false).run ai (O.alloc (au #[af ae p.1,af ae p.2] 79))= .ok (af ae aT) (O.alloc (au #[af ae p.1,af ae p.2] 79)):=by have j9:=S.below.size;have:=bp.out.look p 217 3 (af ae 0) sF (fun _=>by kernel_rfl) (O.alloc (au #[af ae p.1,af ae p.2] 79)) (by rw[fp _ _ _ (by omega)];exact S.below.block _ d4);rw[<-cf,c8.out aT a4]at this;rw[<-cf];exact this
    have gc:=aa dm;have i7:=dm.1.len.1;have S':=aa S;have bT:=aa bq;have g3:=ej.out.len;rw[dh.out]at g3;have hO:(0:Int)<=(aT:Int):=by omega
    have hP:(aT:Int)<(l.length:Int):=by omega
    generalize gX:m++ff x y (aQ x y l) p=T at*;have iX:cG≠O.heap.size:=by omega
    clear S bq a2 dn dm gX cf;have gI:Hid (KV h1 w1 (O.alloc (au #[af ae p.1,af ae p.2] 79)) cG (ag (some ⟨cG,0,none⟩) m.length gQ) m (O.alloc (au #[af ae p.1,af ae p.2] 79))):=⟨S'.out.alloc _,bT.out.alloc _,kC _ _,.inl rfl⟩
    go_wp2_with fail;clear fh;go_loopw[17,107] (fun v i wr=>∃(k:Nat) (n:List (Int×Int)),k<=aP.length/\i=af ae k/\KV h1 w1 (O.alloc (au #[af ae p.1,af ae p.2] 79)) cG v n wr/\Hid (n++(aP.drop k).map (gC x y p)=T)) (fun _ i _=>aP.length-(intOf i).toNat);case atStart=>exact⟨0,m,Nat.zero_le _,rfl,gI.out,gi.out.symm⟩
    case round=>
     obtain⟨k,n,J,rfl,aj,RT⟩:=hrel;obtain⟨an,b9,rfl⟩:=Ow.shape aj.own;have eM:wr.cell? ⟨O.heap.size,0,none⟩=some (af ae p.1):=Lj aj.grown (fun k J=>by simp only[aC]at J;omega) 0;have eN:wr.cell? ⟨O.heap.size,1,none⟩=some (af ae p.2):=Lj aj.grown (fun k J=>by simp only[aC]at J;omega) 1;have fw:O.heap.size<wr.heap.size:=by have:=aj.grown.size;simp at this;omega
     by_cases fi:k<aP.length
     ·obtain⟨h8,iu,fv,-,cQ⟩:=gc.out.open;simp only[bU,true_and]at fv;obtain⟨rfl,rfl⟩:=fv;obtain⟨ib,jO,rfl,iL,cQ⟩:=cQ wr aj.st.I (by omega);obtain⟨iC,iD⟩:=cQ k fi;obtain⟨hG,hH,hI,hJ⟩:=f9.out aP[k] (by simp);have bX:Hid ((n++[gC x y p aP[k]])++(aP.drop (k+1)).map (gC x y p)=T):=by have:=RT.out;rw[List.drop_eq_getElem_cons fi,List.map_cons]at this;unfold Hid;rw[fI];exact this
      generalize aP[k]=G at*;have i5:n.length+1<=T.length:=by rw[<-bX.out];simp
      have e8:G.1.toNat<(nd x p.1).kids.length:=by omega
      have fc:G.2.toNat<(nd y p.2).kids.length:=by omega
      obtain⟨g8,cj⟩:=cu.out wr (fun b c hc=>aj.st.I b c (a1.out.le b c hc));obtain⟨g9,cl⟩:=cv.out wr (fun b c hc=>aj.st.I b c (a1.out.le b c hc));obtain⟨eJ,cC,-,-,-,eP,-,e9,-⟩:=cj p.1 dT dU;obtain⟨eK,cD,-,-,-,eW,-,fd,-⟩:=cl p.2 dW dX;obtain⟨bv,cS,im,fb,iZ,cM⟩:=e9.gA (by omega);simp only[bU,true_and]at fb;obtain⟨rfl,rfl⟩:=fb;obtain⟨bz,cU,io,fe,i0,cN⟩:=fd.gA (by omega);simp only[bU,true_and]at fe;obtain⟨rfl,rfl⟩:=fe;have cd:ao h wr:=fun b c hc=>aj.st.I b c (a1.out.le b c hc);have eO:=(cM wr cd).2 _ e8;have dd:=(cN wr cd).2 _ fc;have g6:=(cM wr cd).1;have g7:=(cN wr cd).1;have ce:ao h w1:=a1.out.gq;have jq:bx<w1.heap.size:=(cu.out w1 ce).1;have jr:aN<w1.heap.size:=(cv.out w1 ce).1;have js:bv<w1.heap.size:=(cM w1 ce).1;have jt:bz<w1.heap.size:=(cN w1 ce).1;have i9:w1.heap.size<=wr.heap.size:=aj.st.below.size;have aZ:∀b,b<w1.heap.size->(ag an n.length b9).ownBlock≠some b:=fun b aO e=>by have:=(aj.own.lt _ e).1;omega
      have fu:(ag an n.length b9).ownBlock≠some O.heap.size:=by
       rcases aj.bi with e|⟨q,e,Y⟩;·rw[e];simp only[ne_eq,aC];omega
       ·rw[e];simp only[ne_eq,aC];simp at Y;omega
      have dE:(ag an n.length b9).ownBlock≠some wr.heap.size:=fun e=>by have:=(aj.own.lt _ e).2;omega
      have f6:=aa aZ;have f7:Hid ((ag an n.length b9).ownBlock≠some O.heap.size):=fu;have f8:Hid ((ag an n.length b9).ownBlock≠some wr.heap.size):=dE;have hg:Hid (((nd x p.1).kids[G.1.toNat],(nd y p.2).kids[G.2.toNat])=gC x y p G):=by unfold Hid gC;rw[vL _ _ _ e8,vL _ _ _ fc]
      generalize(nd x p.1).kids[G.1.toNat]=dN at*;generalize(nd y p.2).kids[G.2.toNat]=dO at*;have dr:=aa (aj.alloc (au #[af ae G.1,af ae G.2] 79));clear cM cN cj cl cQ aZ fu dE aj RT e9 fd cd ce;go_upto_region 21 with fail;have fO:(wr.alloc (au #[af ae G.1,af ae G.2] 79)).cell? ⟨wr.heap.size,0,none⟩=some (af ae G.1):=by rw[cJ _ _ _ _ rfl];rfl
      have fP:(wr.alloc (au #[af ae G.1,af ae G.2] 79)).cell? ⟨wr.heap.size,1,none⟩=some (af ae G.2):=by rw[cJ _ _ _ _ rfl];rfl
      have fQ:(wr.alloc (au #[af ae G.1,af ae G.2] 79)).cell? ⟨O.heap.size,0,none⟩=some (af ae p.1):=by rw[eg _ _ _ fw];exact eM
      have fR:(wr.alloc (au #[af ae G.1,af ae G.2] 79)).cell? ⟨O.heap.size,1,none⟩=some (af ae p.2):=by rw[eg _ _ _ fw];exact eN
      have fU:(wr.alloc (au #[af ae G.1,af ae G.2] 79)).cell? ⟨bx,ba+p.1.toNat*5+3,none⟩=some (ag (some ⟨bv,cS,none⟩) (nd x p.1).kids.length cC):=by rw[eg _ _ _ g8];exact eP
      have jV:(wr.alloc (au #[af ae G.1,af ae G.2] 79)).cell? ⟨aN,bd+p.2.toNat*5+3,none⟩=some (ag (some ⟨bz,cU,none⟩) (nd y p.2).kids.length cD):=by rw[eg _ _ _ g9];exact eW
      have jW:(wr.alloc (au #[af ae G.1,af ae G.2] 79)).cell? ⟨bv,cS+G.1.toNat,none⟩=some (af ae dN):=by rw[eg _ _ _ g6];exact eO
      have jX:(wr.alloc (au #[af ae G.1,af ae G.2] 79)).cell? ⟨bz,cU+G.2.toNat,none⟩=some (af ae dO):=by rw[eg _ _ _ g7];exact dd
      have hX:(wr.alloc (au #[af ae G.1,af ae G.2] 79)).heap.size=wr.heap.size+1:=by simp
      clear eM eN eP eW eO dd;generalize g5:wr.alloc (au #[af ae G.1,af ae G.2] 79)=bg at*;clear g5;have jf:wr.heap.size<bg.heap.size:=by omega
      have l2:O.heap.size<bg.heap.size:=by omega
      have jl:bx<bg.heap.size:=by omega
      have jm:aN<bg.heap.size:=by omega
      have jn:bv<bg.heap.size:=by omega
      have jo:bz<bg.heap.size:=by omega
      clear hX
      go_region_held3(fun w'=>w'.cell? ⟨wr.heap.size,0,none⟩=some (af ae G.1)/\w'.cell? ⟨wr.heap.size,1,none⟩=some (af ae G.2)/\w'.cell? ⟨O.heap.size,0,none⟩=some (af ae p.1)/\w'.cell? ⟨O.heap.size,1,none⟩=some (af ae p.2)/\
        w'.cell? ⟨bx,ba+p.1.toNat*5+3,none⟩=some (ag (some ⟨bv,cS,none⟩) (nd x p.1).kids.length cC)/\w'.cell? ⟨aN,bd+p.2.toNat*5+3,none⟩=some (ag (some ⟨bz,cU,none⟩) (nd y p.2).kids.length cD)/\
        w'.cell? ⟨bv,cS+G.1.toNat,none⟩=some (af ae dN)/\w'.cell? ⟨bz,cU+G.2.toNat,none⟩=some (af ae dO))
       (first|go_keep|(go_split_ands;refine⟨?_,?_,?_,?_,?_,?_,?_,?_⟩<;>(rw[(dw.cellOf (by simp;omega) (by first|exact f8.out|exact f7.out|exact f6.out _ (by assumption))).1];assumption)))
       ((refine gS q3 (by rfl) _ _ (by rfl) ((dr.out.st.alloc _).drewN _) _ n.length _ (by rfl) ((dr.out.own.alloc _).drewN _) ⟨bg.heap.size,0,none⟩ 1 1 (bV (dN,dO)) (by rfl) (by rfl) (cK _ _ _ _ (by simp)) (cm _ rfl) (by omega) (by omega) ?_;intro iI cg w3 fE fC dw eL))
      go_wp2_with fail;have gH:=aa ((dr.out.drewN _).KZ fE fC dw eL);clear fE fC dw eL;go_roundw
      case rel=>
       repeat apply Exists.intro
       refine⟨?_,rfl⟩;exact⟨k+1,n++[gC x y p G],by omega,by go_num,by rw[<-hg.out];exact gH.out,bX⟩
      case measure=>simp[intOf];omega
     ·obtain rfl:k=aP.length:=by omega
      have bX:=RT.out;rw[K2,List.map_nil,List.append_nil]at bX;subst bX;go_wp2_with fail;go_roundw;case rel=>exact⟨j+1,n,by go_num,aj.st,aj.own,ej.out,gz,by unfold Hid;rw[<-R.out,gh.out (by omega) (by omega)];congr 1⟩
      case measure=>simp[intOf];omega
   ·obtain rfl:j=m.length:=by omega
    obtain⟨cA,cE,rfl⟩:=Ow.shape bq;have hR:Hid (pX x y l=m):=by unfold Hid pX;rw[dh.out,<-R.out,pN (kI _) (by omega)];rfl
    have S':=aa S;have bT:=aa bq;have f1:=aa a2;clear S bq a2 R;go_wp2_with fail;refine(tA h1 _ S'.out.I w1.heap.size _ m (by omega) bT.out).mono ?_;rintro e ab ⟨rfl,gr,own⟩;have aV:=S'.out.grown gr (fun k J=>⟨(bT.out.lt k J).1,bT.out.free k J⟩);have dG:(cq m).length=m.length:=List.length_mergeSort _;have eD:jp (h1.fr w1.heap.size ab) (ag cA m.length cE) (cq m):=by refine⟨by rw[dG];exact Ow.sl own (by omega),fun q Y=> ?_⟩;have:=f1.out.inr q ((List.mergeSort_perm m _).mem_iff.1 Y);unfold bZ at this;unfold aG;omega
    have ec:=aV.fr;have d6:mF (h1.fr w1.heap.size ab) (ag (some ⟨g,0,none⟩) l.length l.length) (aQ x y l):=fV.out.mono (Hp.gQ aV.I);have cB:=((co.out ab aV.I).2 0 (by rw[bN.out];exact cc))
    obtain⟨-,-,-,-,-,-,cB,-,-,-,-,-,-,dv,-⟩:=cB;rw[<-vL (aQ x y l) 0 default (by rw[bN.out];exact cc)]at cB dv;simp only[Nat.zero_mul,dz,cO]at cB;have iV:g<ab.heap.size:=(co.out ab aV.I).1;have ea:=a1.out.call ec;have h4:Hid (w1.heap.size<=ab.heap.size):=aV.below.size;generalize h1.fr w1.heap.size ab=dB at*;have am:=aa ea;have gF:=aa eD;have fW:=aa d6;clear aV ec eD gr own ea d6;have i':w.heap.size<ab.heap.size:=by have:=am.out.below.size;rw[en.out]at this;omega
    have aT:ab.cell? ⟨w.heap.size,0,none⟩=some (ag none 0 0):=(fS ax.out am.out.below 0).1;have k1:ab.cell? ⟨w.heap.size,1,none⟩=some (af ae 0):=(fS ax.out am.out.below 1).1;have k2:ab.cell? ⟨w.heap.size,2,none⟩=some (ay false):=(fS ax.out am.out.below 2).1;have k3:ab.cell? ⟨w.heap.size,3,none⟩=some (af ae 0):=(fS ax.out am.out.below 3).1;have k4:ab.cell? ⟨w.heap.size,4,none⟩=some (ag none 0 0):=(fS ax.out am.out.below 4).1;have jZ:=(fS ax.out am.out.below 0).2;have d4:=(fS ax.out am.out.below 1).2;have hY:=(fS ax.out am.out.below 2).2;have d5:=(fS ax.out am.out.below 3).2;have hZ:=(fS ax.out am.out.below 4).2;have i8:(0:Int)<(l.length:Int):=by omega
    go_wp2_with fail;have ci:dB w.heap.size=none:=by rw[am.out.aI _ (by rw[en.out];omega)];exact bI dg.out _ (kI _)
    have gK:St w.heap.size h w dB ab:=by have h1:=(St.refl dg.out).alloc (au #[ag none 0 0,af ae 0,ay false,af ae 0,ag none 0 0] 76);rw[ax.out]at h1;exact h1.call am.out
    refine bodyPost_ret (v:= .agg #[ag cA m.length cE,af ae ((aQ x y l).getD 0 default).cost,ay true,af ae ((aQ x y l).getD 0 default).cost,ag (some ⟨g,0,none⟩) l.length l.length]) (by simp[results,Tryz.results106,go_sem,aT,k1,k2,k3,k4]) rfl ?_;have gP:=((((gK.setCell (p:=⟨w.heap.size,0,none⟩) (kI _) ci (ag cA m.length cE)).setCell (p:=⟨w.heap.size,1,none⟩) (kI _) ci (af ae ((aQ x y l).getD 0 default).cost)).setCell (p:=⟨w.heap.size,2,none⟩) (kI _) ci (ay true)).setCell (p:=⟨w.heap.size,3,none⟩) (kI _) ci (af ae ((aQ x y l).getD 0 default).cost)).setCell (p:=⟨w.heap.size,4,none⟩) (kI _) ci (ag (some ⟨g,0,none⟩) l.length l.length);refine⟨_,rfl,dB,gP,cA,cE,some ⟨g,0,none⟩,l.length,?_,?_,?_,?_,?_⟩;·simp[iO,hR.out,dG,bN.out]
    ·exact dv
    ·exact dv
    ·simp only[iO,hR.out,dG];exact gF.out
    ·simp only[iO,bN.out];exact fW.out
end Go.Proofs.YtdplggpbgommnaaGreatDoor
