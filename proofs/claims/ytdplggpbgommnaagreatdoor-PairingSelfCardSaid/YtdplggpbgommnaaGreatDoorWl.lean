/- matching.least. -/
import Derived.Test.YtdplggpbgommnaaGreatDoorWh
import Derived.Test.YtdplggpbgommnaaGreatDoorG08
import Derived.Test.YtdplggpbgommnaaGreatDoorG10
open Bool renaming and_eq_true→cy
open Go.Addr.mk renaming injEq→cx
open Go.Instr renaming lookup→mn
open Go.IntKind renaming i64→ae
open Go.Lib renaming hid→aa
open Go.Obj renaming cells→au
open Go.Proofs.Tryz renaming prog→ai,underlying217→sF
open Go.RowKit.Below renaming heap_alloc→fp
open Go.Value renaming bool→ay,int→af,ownBlock→bW,slice→ag
open Go.Value.agg renaming injEq→oG
open Go.Value.slice renaming injEq→bU
open Go.World renaming cell?_alloc_at→cJ,cell?_alloc_past→eg,drew→dd
open Go.World.grownBy renaming refl→kC
open List renaming append_assoc→fI,drop_length→mu,length_take→mb
open Nat renaming add_zero→dz,le_refl→an,zero_add→cO
open Option.some renaming injEq→aC
set_option maxRecDepth 100000
set_option maxHeartbeats 4000000
namespace Go.Proofs.YtdplggpbgommnaaGreatDoor
open Go.RowKit
def vA:List Value:=[af ae 0,af ae 0,af ae 0,ag none 0 0,af ae 0,ag none 0 0]
structure qs(h:Hp)(w0:World)(x y:List aB)(l:List (Int×Int))(g:Nat)(i:Nat)(hi:Hp)(wr:World)(zs es:List Value):Prop where
 st:St w0.heap.size h w0 hi wr
 J4:∃ld,fy wr w0.heap.size ld∧∀q,(fT ld q).getD (af ae 0)=af ae (bG (aQ x y (l.drop i)) q)
 Bp:∃li,fy wr (w0.heap.size+1) li∧∀k (hk:k<l.length),i≤k→fT li l[k]=some (af ae k)
 hd:hi w0.heap.size=none∧hi (w0.heap.size+1)=none
 own:Ow wr hi w0.heap.size 140 6 (ag (some ⟨g,0,none⟩) l.length l.length) l.length (zs++es)
 zl:zs.length=i*6
 enc:aJ (kN hi) (aQ x y (l.drop i)) es
 gg:w0.heap.size+2≤g
theorem J5{A E:List Value}{i:Nat}(hz:A.length=(i+1)*6)(a b c d e f:Value):((((((A++E).set (i*6) a).set (i*6+1) b).set (i*6+2) c).set (i*6+3) d).set (i*6+4) e).set (i*6+5) f=A.take (i*6)++([a,b,c,d,e,f]++E):=by
 have h1:(A.take (i*6)).length=i*6:=by rw[mb];omega
 have h2:(A.drop (i*6)).length=6:=by rw[List.length_drop];omega
 have G:A=A.take (i*6)++A.drop (i*6):=(List.take_append_drop _ _).symm;generalize A.take (i*6)=ak at*;generalize A.drop (i*6)=M at*;subst G
 match M,h2 with
 |[O,Y,ab,ac,ad,aj],_=>rw[←h1,fI];simp[List.set_append_right]
theorem J6(W:World):W.drew.heap=W.heap:=rfl
theorem qs.next{h:Hp}{w0:World}{x y:List aB}{l:List (Int×Int)}{g j:Nat}{a5:Hp}{wr:World}{aj Y:List Value}(L:qs h w0 x y l g (j+1) a5 wr aj Y)(a8:j<l.length)(bd:l.Nodup){p:Int×Int}(ac:l[j]=p){h2:Hp}{G:World}{A:jr}{ap ar:Option Addr}{cp cr:Nat}(ax:aG p.1∧aG p.2)(a3:aG (cZ (nd x p.1).text (nd y p.2).text+A.cost))(aX:e0 (bL x p.1) (bL y p.2) (eA x y p (bG (aQ x y (l.drop (j+1)))))=A)(a2:aG A.cost)(aP:jp h2 (ag ap A.aR.length cp) A.aR)(aS:gP h2 (ag ar A.bM.length cr) A.bM)(a1:St w0.heap.size h w0 h2 G)(aZ:Ow G h2 w0.heap.size 140 6 (ag (some ⟨g,0,none⟩) l.length l.length) l.length (aj++Y))(O:h2 g=none)(aY:h2 w0.heap.size=none∧h2 (w0.heap.size+1)=none){aL aM:List ((Int×Int)×Value)}(ba:fy G w0.heap.size (iq aL p (af ae (cZ (nd x p.1).text (nd y p.2).text+A.cost))))(a9:fy G (w0.heap.size+1) (iq aM p (af ae j)))(aT:∀q,(fT aL q).getD (af ae 0)=af ae (bG (aQ x y (l.drop (j+1))) q))(aV:∀k (ak:k<l.length),j+1≤k→fT aM l[k]=some (af ae k))(aO:aJ (kN h2) (aQ x y (l.drop (j+1))) Y):
  qs h w0 x y l g j h2 ((((((G.setCell ⟨g,j*6,none⟩ (af ae p.1)).setCell ⟨g,j*6+1,none⟩ (af ae p.2)).setCell ⟨g,j*6+2,none⟩ (af ae (cZ (nd x p.1).text (nd y p.2).text+A.cost))).setCell ⟨g,j*6+3,none⟩ (ag ap A.aR.length cp)).setCell ⟨g,j*6+4,none⟩ (af ae A.cost)).setCell ⟨g,j*6+5,none⟩ (ag ar A.bM.length cr)).drew (aj.take (j*6)) ([af ae p.1,af ae p.2,af ae (cZ (nd x p.1).text (nd y p.2).text+A.cost),ag ap A.aR.length cp,af ae A.cost,ag ar A.bM.length cr]++Y):=by
 have bg:=L.gg;have bm:j*6+6≤l.length*6:=by omega
 have aN:=(((((aZ.set (j*6) (af ae p.1) (by omega)).set (j*6+1) (af ae p.2) (by omega)).set (j*6+2) (af ae (cZ (nd x p.1).text (nd y p.2).text+A.cost)) (by omega)).set (j*6+3) (ag ap A.aR.length cp) (by omega)).set (j*6+4) (af ae A.cost) (by omega)).set (j*6+5) (ag ar A.bM.length cr) (by omega);rw[J5 L.zl]at aN;have st:=(((((a1.setCell (p:=⟨g,j*6,none⟩) (by show w0.heap.size≤g;omega) O (af ae p.1)).setCell (p:=⟨g,j*6+1,none⟩) (by show w0.heap.size≤g;omega) O (af ae p.2)).setCell (p:=⟨g,j*6+2,none⟩) (by show w0.heap.size≤g;omega) O (af ae (cZ (nd x p.1).text (nd y p.2).text+A.cost))).setCell (p:=⟨g,j*6+3,none⟩) (by show w0.heap.size≤g;omega) O (ag ap A.aR.length cp)).setCell (p:=⟨g,j*6+4,none⟩) (by show w0.heap.size≤g;omega) O (af ae A.cost)).setCell (p:=⟨g,j*6+5,none⟩) (by show w0.heap.size≤g;omega) O (ag ar A.bM.length cr);have M:∀(W:World) b i u,b≠g→(W.setCell ⟨g,i,none⟩ u).heap[b]? =W.heap[b]? :=fun W b i u E=>Below.heap_setCell _ _ _ _ E;have am:∀b,b≠g→((((((G.setCell ⟨g,j*6,none⟩ (af ae p.1)).setCell ⟨g,j*6+1,none⟩ (af ae p.2)).setCell ⟨g,j*6+2,none⟩ (af ae (cZ (nd x p.1).text (nd y p.2).text+A.cost))).setCell ⟨g,j*6+3,none⟩ (ag ap A.aR.length cp)).setCell ⟨g,j*6+4,none⟩ (af ae A.cost)).setCell ⟨g,j*6+5,none⟩ (ag ar A.bM.length cr)).drew.heap[b]? =G.heap[b]? :=fun b E=>by rw[J6,M _ _ _ _ E,M _ _ _ _ E,M _ _ _ _ E,M _ _ _ _ E,M _ _ _ _ E,M _ _ _ _ E]
 have a4:hT x y p (bG (aQ x y (l.drop (j+1))))=⟨p.1,p.2,cZ (nd x p.1).text (nd y p.2).text+A.cost,A⟩:=by rw[←aX];rfl
 have ab:=xK x y l j a8;rw[ac,a4]at ab;refine⟨st.drew,⟨_,ba.U (am _ (by omega)),fun q=> ?_⟩,⟨_,a9.U (am _ (by omega)),fun k ak bp=> ?_⟩,aY,aN.drew,by rw[mb,L.zl];omega,?_,L.gg⟩
 ·rw[qX,ab,ra];by_cases ad:q=p;·subst ad;simp
  ·rw[if_neg ad,if_neg (fun e=>ad e)];exact aT q
 ·rw[qX];by_cases ao:k=j;·subst ao;rw[if_pos ac]
  ·rw[if_neg (fun e=>ao ((List.getElem_inj bd).1 (e.trans ac.symm)))];exact aV k ak (by omega)
 ·rw[ab];refine⟨_,_,rfl,⟨_,rfl,?_,?_,?_,ap,cp,ar,cr,rfl,a2,aP,aS⟩,aO⟩;·exact ax.1
  ·exact ax.2
  ·exact a3
theorem hS.alloc{h:Hp}{w A:World}{g:Nat}{v:Value}{m:List (Int×Int)}{w2:World}(r:hS h w A g v m w2)(o:Obj):hS h w A g v m (w2.alloc o):=
 ⟨r.st.alloc o,r.own.alloc o,mD r.grown o,r.bi⟩
theorem Ep(h:Hp)(w:World)(ac:ao h w)(fG fP fF:Value)(x y:List aB)(l:List (Int×Int))(dE:gy h fG x)(hy:gy h fP y)(cX:WF x)(cY:WF y)(nx:ct x=true)(cl:ct y=true)(fd:jp h fF l)(fj:l.Nodup)(e6:∀p∈l,bZ x y p)(dC:(0,0)∈l)(e3:∀p∈l,∀q∈kp x y p,q∈l)(iK:l.length≤1000000000000):Calls ai 106 #[fG,fP,fF] w fun e w'=>∃v,e= .returned v∧∃h',St w.heap.size h w h' w'∧tg h' v (iO x y l):=by
 have dY:x.length≤262144:=by unfold ct at nx;simp only[cy,decide_eq_true_eq]at nx;exact nx.1
 have dZ:y.length≤262144:=by unfold ct at cl;simp only[cy,decide_eq_true_eq]at cl;exact cl.1
 have b0:0<l.length:=List.length_pos_of_mem dC;have NX:=aa dE;have gx:=aa hy;obtain⟨bx,a5,h6,rfl,iV,fv⟩:=dE.gA cX.pos;obtain⟨ax,a8,h8,rfl,iX,fw⟩:=hy.gA cY.pos;obtain⟨hJ,hY,rfl,iM,cf⟩:=fd.open;have cu:=aa (fun w' ac=>fv w' ac);have cv:=aa (fun w' ac=>fw w' ac);have f6:=aa (fun w' ac=>cf w' ac);have db:=aa ac;have bR:=aa cX;have bT:=aa cY;have ep:=aa nx;have eq:=aa cl;have he:=cX.pos;have hg:=cY.pos;have dg:=aa fj;have ei:=aa e6;have gc:=aa dC;have f4:=aa e3;have bH:Hid (ao h (w.alloc (au #[ag none 0 0,af ae 0,ay false,af ae 0,ag none 0 0] 76))):=db.out.alloc _;clear dE hy fd fv fw cf cX cY nx cl ac fj e6 dC e3;have iN:∀W:World,(Instr.makeMap 217 none).run ai W= .ok (.map (some W.heap.size)) (W.alloc (.map #[] 0)):=fun W=>rfl;go_enter Tryz.func106,Tryz.ntmps106;go_upto_region 3 with fail;have hz:(w.alloc (au #[ag none 0 0,af ae 0,ay false,af ae 0,ag none 0 0] 76)).heap.size=w.heap.size+1:=by simp
 rw[←hz];have ek:=aa hz;clear hz;generalize e2:w.alloc (au #[ag none 0 0,af ae 0,ay false,af ae 0,ag none 0 0] 76)=w0 at*;have aj:=aa e2;clear e2;go_wp2_with(at_make;refine jk Dp rfl _ _ rfl (((St.refl bH.out).alloc _).alloc _) ae ae _ _ l.length rfl rfl rfl rfl (by omega) ?_;intro w3 fE dP du);generalize eX:w0.heap.size+1+1=g
 have en:qs h w0 x y l g l.length h w3 (madeCells vA.toArray (l.length*6)).toList []:=by
  have hz:((w0.alloc (.map #[] 0)).alloc (.map #[] 0)).heap.size=w0.heap.size+2:=by simp
  rw[hz]at dP;refine⟨fE,⟨[],(((th w0).U (fp _ _ _ (by simp))).U (du.block _ (by rw[hz];omega) (by simp))),fun q=> ?_⟩,⟨[],?_,fun k G iL=>by omega⟩,⟨bI bH.out _ (by omega),bI bH.out _ (by omega)⟩,?_,?_,?_,by omega⟩;·rw[mu];rfl
  ·have:=(th (w0.alloc (.map #[] 0))).U (du.block _ (by simp) (by simp));simpa using this
  ·rw[←eX];simpa[vA]using dP
  ·simp[vA,size_madeCells]
  ·rw[mu];simp[aQ,aJ]
 have gp:=aa en;have iD:w0.heap.size+2≤g:=by omega
 clear en fE dP du eX;go_loopw[10,11,12,13,14,15,16,31,32,33,34,35,36,37,38,39,40,41,42,43,44,45,46,47,48,49,50,51,52,53,54,55,56,57,58,59,60,61,62,63,64,65,66,67,68,69,70,71,72,73,74,75,76,77,78,79,80,81,82,83,84,85] (fun i _ _ _ _ _ _ _ _ _ _ _ _ _ _ _ _ _ _ _ _ _ _ _ _ _ _ _ _ _ _ _ _ _ _ _ _ _ _ _ _ _ _ _ _ _ _ _ _ _ _ _ _ _ _ _ _ _ _ _ _ _ wr=>∃(k:Nat) (ac:Hp) (cn bv:List Value),k≤l.length∧i=af ae ((k:Int)-1)∧qs h w0 x y l g k ac wr cn bv) (fun i _ _ _ _ _ _ _ _ _ _ _ _ _ _ _ _ _ _ _ _ _ _ _ _ _ _ _ _ _ _ _ _ _ _ _ _ _ _ _ _ _ _ _ _ _ _ _ _ _ _ _ _ _ _ _ _ _ _ _ _ _ _=>(intOf i+1).toNat);case atStart=>exact⟨l.length,h,_,_,an _,rfl,gp.out⟩
 case round=>
  obtain⟨k,ac,cn,bv,G,rfl,L⟩:=hrel;by_cases a1:k=0
  case neg=>
   obtain⟨j,rfl⟩:∃j,k=j+1:=⟨k-1,by omega⟩
   have cF:((j+1:Nat):Int)-1=(j:Int):=by omega
   rw[cF];clear cF a1;have a2:j<l.length:=by omega
   obtain⟨bl,jo,rfl,bz,cf⟩:=f6.out wr L.st.gq b0;obtain⟨h9,ia⟩:=cf j a2;have dh:=aa (ei.out l[j] (by simp));have hG:=aa (xK x y l j a2);clear cf;generalize eY:l[j]=p at*;have f5:=aa eY;clear eY;have d4:Hid (∀q,0≤bG (aQ x y (l.drop (j+1))) q∧bG (aQ x y (l.drop (j+1))) q≤524288):=tO bR.out bT.out dY dZ (tQ bR.out bT.out ep.out eq.out _ (fun q O=>ei.out q (List.mem_of_mem_drop O)));have ak:=aa L;obtain⟨dQ,dR,dT,dU⟩:=dh.out;clear L;go_upto_region 8 with fail;obtain⟨hb,MD,ea⟩:=ak.out.J4;obtain⟨fx,ba,bC⟩:=ak.out.Bp;have bJ:=aa MD;have eb:=aa ea;have bd:=aa ba;have c8:=aa bC;clear MD ea ba bC;go_wp2_with fail;refine(DV ac _ (ak.out.st.I.alloc _) _ _ x y p _ hb (bG (aQ x y (l.drop (j+1)))) (NX.out.mono ak.out.st.le) (gx.out.mono ak.out.st.le) bR.out bT.out dY dZ dh.out (bJ.out.U (fp _ _ _ bJ.out.lt)) (fun q=>⟨eb.out q,by have:=d4.out q;unfold aG;omega⟩)).mono ?_;rintro e w1 ⟨hp,hq,jA,rfl,h1,ex,el,em,es⟩;have am:=aa ex;have gi:=aa el;have gk:=aa em;have gB:=aa es;have cw:=aa (tP bR.out bT.out ep.out eq.out dh.out _ d4.out);clear ex el em es;go_wp2_with fail;refine(J1 h1 _ am.out.I _ _ _ _ _ _ gi.out gk.out gB.out cw.out).mono ?_;rintro e w2 ⟨cs,rfl,h2,ey,f0⟩;obtain⟨ap,cp,ar,cr,rfl,gJ,d5,d6⟩:=f0;have aN:=aa ey;have f1:=aa d5;have f2:=aa d6;clear ey d5 d6;generalize eP:e0 (bL x p.1) (bL y p.2) (eA x y p (bG (aQ x y (l.drop (j+1)))))=A at*;have ed:=aa eP;clear eP;go_upto_region 10 with fail;have d1:wr.heap.size<w1.heap.size:=by have:=am.out.below.size;simp at this;omega
   have hD:w1.heap.size≤w2.heap.size:=aN.out.below.size;have dp:Hid (St w0.heap.size h w0 h2 (w2.alloc (au #[ag ap A.aR.length cp,af ae A.cost,ag ar A.bM.length cr] 138))):=((((ak.out.st.alloc _).call am.out).call aN.out).alloc _)
   have gz:Hid (Ow (w2.alloc (au #[ag ap A.aR.length cp,af ae A.cost,ag ar A.bM.length cr] 138)) h2 w0.heap.size 140 6 (ag (some ⟨g,0,none⟩) l.length l.length) l.length (cn++bv)):=((((ak.out.own.alloc _).call am.out).call aN.out).alloc _)
   have dN:∀b,b<wr.heap.size→(w2.alloc (au #[ag ap A.aR.length cp,af ae A.cost,ag ar A.bM.length cr] 138)).heap[b]? =wr.heap[b]? :=fun b aL=>by rw[fp _ _ _ (by omega),aN.out.below.block b (by omega),am.out.below.block b (by simp;omega),fp _ _ _ aL]
   have eo:=aa (bJ.out.U (dN _ bJ.out.lt));have gq:=aa (bd.out.U (dN _ bd.out.lt));have dq:(w2.alloc (au #[ag ap A.aR.length cp,af ae A.cost,ag ar A.bM.length cr] 138)).cell? ⟨wr.heap.size,0,none⟩=some (af ae p.1):=by rw[eg _ _ _ (by show wr.heap.size<_;omega),aN.out.below.cell (by show wr.heap.size<_;omega),am.out.below.cell (by simp),cJ _ _ _ _ rfl];rfl
   have b1:(w2.alloc (au #[ag ap A.aR.length cp,af ae A.cost,ag ar A.bM.length cr] 138)).cell? ⟨wr.heap.size,1,none⟩=some (af ae p.2):=by rw[eg _ _ _ (by show wr.heap.size<_;omega),aN.out.below.cell (by show wr.heap.size<_;omega),am.out.below.cell (by simp),cJ _ _ _ _ rfl];rfl
   have a0:(w2.alloc (au #[ag ap A.aR.length cp,af ae A.cost,ag ar A.bM.length cr] 138)).cell? ⟨w2.heap.size,0,none⟩=some (ag ap A.aR.length cp):=by rw[cJ _ _ _ _ rfl];rfl
   have eB:(w2.alloc (au #[ag ap A.aR.length cp,af ae A.cost,ag ar A.bM.length cr] 138)).cell? ⟨w2.heap.size,1,none⟩=some (af ae A.cost):=by rw[cJ _ _ _ _ rfl];rfl
   have eC:(w2.alloc (au #[ag ap A.aR.length cp,af ae A.cost,ag ar A.bM.length cr] 138)).cell? ⟨w2.heap.size,2,none⟩=some (ag ar A.bM.length cr):=by rw[cJ _ _ _ _ rfl];rfl
   have d2:(w2.alloc (au #[ag ap A.aR.length cp,af ae A.cost,ag ar A.bM.length cr] 138)).heap.size=w2.heap.size+1:=by simp
   have hH:Hid ((w2.alloc (au #[ag ap A.aR.length cp,af ae A.cost,ag ar A.bM.length cr] 138)).heap.size=w2.heap.size+1):=d2;have fZ:Hid (aJ (kN h2) (aQ x y (l.drop (j+1))) bv):=ak.out.enc.mono fun _ _ q=>(q.mono am.out.le).mono aN.out.le
   have c9:Hid (h2 w0.heap.size=none∧h2 (w0.heap.size+1)=none):=by
    have ju:=bJ.out.lt;have jv:=bd.out.lt;have q1:=ak.out.hd;refine⟨?_,?_⟩;·rw[aN.out.aI _ (by omega),am.out.aI _ (by simp;omega)];exact q1.1
    ·rw[aN.out.aI _ (by omega),am.out.aI _ (by simp;omega)];exact q1.2
   have hE:w0.heap.size+1<wr.heap.size:=bd.out.lt;clear dN;generalize gV:w2.alloc (au #[ag ap A.aR.length cp,af ae A.cost,ag ar A.bM.length cr] 138)=w3 at*;clear gV;obtain⟨it,ci⟩:=cu.out w3 dp.out.gq;obtain⟨iw,cj⟩:=cv.out w3 dp.out.gq;obtain⟨eD,cC,hs,ht,hu,hw,hB,-,-,-,-⟩:=ci p.1 dQ dR;obtain⟨eE,cD,fQ,fR,fU,fV,fW,-,-,-,-⟩:=cj p.2 dT dU;clear ci cj;have cV:wr.heap.size<w3.heap.size:=by omega
   have d0:w2.heap.size<w3.heap.size:=by omega
   have iy:=mM (nd x p.1).text (nd y p.2).text;have iq:0≤A.cost∧A.cost≤838860800:=by rw[←ed.out];have q1:=mK cw.out (bL x p.1).length (bL y p.2).length;have dW:=cw.out.dl;have dX:=cw.out.al;simp only[e0];omega
   have bS:ae.wrap (cZ (nd x p.1).text (nd y p.2).text+A.cost)=cZ (nd x p.1).text (nd y p.2).text+A.cost:=bA (by omega);clear d2;have iu:bx<w0.heap.size:=(cu.out w0 bH.out).1;have ix:ax<w0.heap.size:=(cv.out w0 bH.out).1
   go_region_held3(fun w'=>w'.cell? ⟨wr.heap.size,0,none⟩=some (af ae p.1)∧w'.cell? ⟨wr.heap.size,1,none⟩=some (af ae p.2)∧w'.cell? ⟨w2.heap.size,1,none⟩=some (af ae A.cost)∧
     w'.cell? ⟨bx,a5+p.1.toNat*5,none⟩=some (af ae (nd x p.1).kind)∧w'.cell? ⟨bx,a5+p.1.toNat*5+1,none⟩=some (.string (nd x p.1).text)∧w'.cell? ⟨bx,a5+p.1.toNat*5+2,none⟩=some (af ae (nd x p.1).parent)∧w'.cell? ⟨bx,a5+p.1.toNat*5+3,none⟩=some (ag eD (nd x p.1).kids.length cC)∧w'.cell? ⟨bx,a5+p.1.toNat*5+4,none⟩=some (af ae (nd x p.1).size)∧
     w'.cell? ⟨ax,a8+p.2.toNat*5,none⟩=some (af ae (nd y p.2).kind)∧w'.cell? ⟨ax,a8+p.2.toNat*5+1,none⟩=some (.string (nd y p.2).text)∧w'.cell? ⟨ax,a8+p.2.toNat*5+2,none⟩=some (af ae (nd y p.2).parent)∧w'.cell? ⟨ax,a8+p.2.toNat*5+3,none⟩=some (ag eE (nd y p.2).kids.length cD)∧w'.cell? ⟨ax,a8+p.2.toNat*5+4,none⟩=some (af ae (nd y p.2).size))
    (first|go_keep|(go_split_ands;refine⟨?_,?_,?_,?_,?_,?_,?_,?_,?_,?_,?_,?_,?_⟩<;>first|(rw[aT.cell (by show _<w3.heap.size;assumption)];assumption)|(rw[(aZ.cellOf (by show _<Y.heap.size;omega) (by simp only[ne_eq,aC];omega)).1,aT.cell (by show _<w3.heap.size;omega)];assumption)))
    (first|(go_at_call 150;refine(tt _ _ _ _ _ _ _ _ _ _ _ _ _ _ _).mono ?_;rintro e Y ⟨rfl,aT⟩;have iY:w3.heap.size≤Y.heap.size:=aT.size;obtain⟨cz,g9,dA,aZ⟩:=(eo.out.U (aT.block _ eo.out.lt)).qZ p (af ae (cZ (nd x p.1).text (nd y p.2).text+A.cost)) 217 3 sF))
   have dO:∀b,b<w3.heap.size→b≠w0.heap.size→cz.heap[b]? =w3.heap[b]? :=fun b aL aV=>by rw[aZ.block b (by omega) (fun e=>by simp only[aC]at e;exact aV e)];exact aT.block b aL
   have aP:=aa ((dp.out.drew.same aT).grown aZ (fun k G=>by simp only[aC]at G;subst G;exact⟨an _,c9.out.1⟩));have hh:w0.heap.size+1<w3.heap.size:=by omega
   obtain⟨aS,g',fh,bB⟩:=(gq.out.U (dO _ hh (by omega))).qZ p (af ae j) 217 3 sF;have jM:w3.heap.size≤cz.heap.size:=by have:=aZ.size;omega
   have jN:cz.heap.size≤aS.heap.size:=bB.size;have c5:∀b i,b<w3.heap.size→b≠w0.heap.size→cz.cell? ⟨b,i,none⟩=w3.cell? ⟨b,i,none⟩:=fun b i aL aV=>World.cell?_of_block (a:=⟨b,i,none⟩) (dO b aL aV);have bq:∀b i,b<w3.heap.size→b≠w0.heap.size→b≠w0.heap.size+1→aS.cell? ⟨b,i,none⟩=w3.cell? ⟨b,i,none⟩:=fun b i aL aV dB=>by rw[(bB.cellOf (i:=i) (by omega) (by simp only[ne_eq,aC];omega)).1];exact c5 b i aL aV
   have gK:=(c5 _ 0 cV (by omega)).trans dq;have cF:=(c5 _ 1 cV (by omega)).trans b1;have ik:=(bq _ 0 cV (by omega) (by omega)).trans dq;have il:=(bq _ 1 cV (by omega) (by omega)).trans b1;have im:=(bq _ 0 d0 (by omega) (by omega)).trans a0;have g1:=(bq _ 1 d0 (by omega) (by omega)).trans eB;have io:=(bq _ 2 d0 (by omega) (by omega)).trans eC;have gF:=aa (aP.out.grown bB (fun k G=>by simp only[aC]at G;subst G;exact⟨by omega,c9.out.2⟩));have dm:=aa (((gz.out.drew.same aT).grown aZ (fun q O=>by simp only[bW,aC]at O;subst O;simp only[ne_eq,aC];omega)).grown bB (fun q O=>by simp only[bW,aC]at O;subst O;simp only[ne_eq,aC];omega));have fi:=aa (dA.U (bB.block _ (by have:=dA.lt;omega) (fun e=>by simp only[aC]at e;omega)));have g8:=aa fh;have fe:(mn 217 (.map (some w0.heap.size)) (.agg #[af ae p.1,af ae p.2]) false).run ai aS.drew= .ok (af ae (cZ (nd x p.1).text (nd y p.2).text+A.cost)) aS.drew:=by have:=fi.out.look p 217 3 (af ae 0) sF (fun _=>by kernel_rfl) aS.drew rfl;rw[qX,if_pos rfl]at this;exact this
   have iQ:=dm.out.len;obtain⟨eN,e5,jl,jm,hc,fy,a3⟩:=dm.out.cell b0;obtain rfl:g=eN:=by simpa using e5
   have a4:∀k,k<6→∃u,aS.cell? ⟨g,j*6+k,none⟩=some u:=fun k G=>by
    have:j*6+k<(cn++bv).length:=by omega
    exact⟨_,fy _ _ (List.getElem?_eq_getElem this)⟩
   obtain⟨js,hk⟩:=a4 0 (by omega);obtain⟨q1,hl⟩:=a4 1 (by omega);obtain⟨dW,hm⟩:=a4 2 (by omega);obtain⟨dX,hn⟩:=a4 3 (by omega);obtain⟨fC,ho⟩:=a4 4 (by omega);obtain⟨jt,jx⟩:=a4 5 (by omega);rw[dz]at hk;have i8:=a3 (j*6);have i9:=a3 (j*6+1);have i':=a3 (j*6+2);have ja:=a3 (j*6+3);have jb:=a3 (j*6+4);have jc:=a3 (j*6+5);have je:wr.heap.size<aS.heap.size:=by omega
   have jf:w2.heap.size<aS.heap.size:=by omega
   have jy:(0:Int)≤(j:Int):=by omega
   have jz:(j:Int)<(l.length:Int):=by omega
   clear e5 a4 fy a3 dA fh dO c5 bq aT aZ bB dq b1 a0 eB eC hs ht hu hw hB fQ fR fU fV fW;go_wp2_with fail;clear gK cF g9 g';refine wp_region_still_tail 12 (by kernel_rfl) (by kernel_rfl) ?_;simp only[List.take_succ_cons,List.take_zero,List.drop_succ_cons,List.drop_zero];change wpStill _ _ (dd _) (fun a'=>wpList _ _ _ _ a' (dd _)) _ _;repeat still_step
   refine wpStill_nil ?_;go_wp2_with fail;go_roundw;case rel=>exact⟨j,h2,_,_,by omega,rfl,ak.out.next a2 dg.out f5.out (by unfold aG;omega) (by unfold aG;omega) ed.out gJ f1.out f2.out gF.out dm.out hc c9.out fi.out g8.out eb.out c8.out fZ.out⟩
   case measure=>simp[intOf]
  subst a1;obtain⟨w1,rfl⟩:∃w1:World,w1=wr:=⟨_,rfl⟩
  have ha:cn=[]:=List.eq_nil_of_length_eq_zero (by have:=L.zl;simpa using this);subst ha;have bz:(aQ x y l).length=l.length:=pV x y l
  have c6:mF (ac.fr w0.heap.size w1) (ag (some ⟨g,0,none⟩) l.length l.length) (aQ x y l):=by
   refine⟨bv,?_,?_⟩;·rw[bz];have:=L.own.sl (by omega);simpa using this
   ·have:=L.enc.mono fun _ _ q=>q.mono (Hp.gQ (B:=w0.heap.size) L.st.I);simpa using this
  have d8:=L.st.fr;obtain⟨fx,ba,bC⟩:=L.Bp;have bd:=aa ba;have c8:Hid (∀k (G:k<l.length),fT fx l[k]=some (af ae k)):=fun k G=>bC k G (by omega);generalize ac.fr w0.heap.size w1=h1 at*;have aX:=aa d8;obtain⟨eN,jn,hV,dw,-,eW⟩:=c6.gA (by rw[bz];exact b0);rw[bz]at dw;simp only[bU,aC,cx,and_true,true_and]at dw;obtain⟨⟨rfl,rfl⟩,rfl⟩:=dw;have co:=aa (fun w' ac=>eW w' ac);have fX:=aa c6;have bE:=aa bz;have gm:=aa (rp bR.out bT.out l);have GS:=aa (oS (k:=ff x y (aQ x y l)) he hg);have iW:x.length*y.length≤262144*262144:=Nat.mul_le_mul dY dZ;generalize eZ:x.length*y.length=N at*;have de:=aa eZ;have d1:w0.heap.size+1<w1.heap.size:=ba.lt;clear L d8 ba bC c6 eW bz eZ;go_wp2_with fail;go_loopw[17,18,19,21,88,89,90,91,92,93,94,95,96,97,98,99,100,101,102,103,104,105,106,107,108,109,110,111,112,113,114,115,116,117,118,119,120,121,122,123,124,125,126,127,128,129,130,131,132,133,134,135] (fun v i _ _ _ _ _ _ _ _ _ _ _ _ _ _ _ _ _ _ _ _ _ _ _ _ _ _ _ _ _ _ _ _ _ _ _ _ _ _ _ _ _ _ _ _ _ _ _ _ _ _ wr=>∃(j:Nat) (m:List (Int×Int)),i=af ae j∧St w1.heap.size h1 w1 h1 wr∧lO wr h1 w1.heap.size v m∧Good x y (ff x y (aQ x y l)) m j∧Hid (∀p∈m,p∈l)∧Hid (ez (ff x y (aQ x y l)) N (N+1-j) m j=ez (ff x y (aQ x y l)) N (N+1) [(0,0)] 0)) (fun _ i _ _ _ _ _ _ _ _ _ _ _ _ _ _ _ _ _ _ _ _ _ _ _ _ _ _ _ _ _ _ _ _ _ _ _ _ _ _ _ _ _ _ _ _ _ _ _ _ _ _ _=>N-(intOf i).toNat);case atStart=>exact⟨0,[(0,0)],rfl,(St.refl aX.out.I).alloc _,oP (w:=w1) aX.out.I (an _) [af ae 0,af ae 0] 1 2 79 (by simp[maxLen]) rfl,GS.out,fun p fr=>(by simp only[List.mem_singleton]at fr;subst fr;exact gc.out),rfl⟩
  case round=>
   obtain⟨M,rfl⟩:∃M:World,M=wr:=⟨_,rfl⟩
   obtain⟨j,m,rfl,S,bg,aY,dk,R⟩:=hrel;have iH:=aY.le;have g7:=aY.len;rw[de.out]at g7;by_cases a2:j<m.length
   ·obtain⟨cG,gI,rfl,iz,aZ,iB,hU,c1⟩:=bg.open j a2;obtain⟨dQ,dR,dT,dU⟩:=aY.inr m[j] (by simp);have ec:=aa (pL gm.out aY a2);have gh:Hid (m++ff x y (aQ x y l) m[j]=m++(iv (aQ x y l) m[j]).kids.aR.map (gC x y m[j])):=rfl;have ge:=aa (fun aL g5=>pM (k:=ff x y (aQ x y l)) (budget:=N) (f:=N+1-j) a2 aL g5);have ej:=aa (dk.out m[j] (by simp))
    have gw:Hid (∀p∈m++ff x y (aQ x y l) m[j],p∈l):=fun q O=>by
     rcases List.mem_append.1 O with O|O;·exact dk.out q O
     ·exact f4.out _ ej.out q (rm l O)
    generalize m[j]=p at*;obtain⟨aO,a1,ce⟩:=List.mem_iff_getElem.1 ej.out;obtain⟨hO,h0,hR,h5,-,-,-,gP,-,-,eM,-⟩:=(co.out M S.I).2 aO (by rw[bE.out];exact a1);have ir:=(co.out M S.I).1;rw[ri dg.out aO a1,ce,cO]at gP;rw[ri dg.out aO a1,ce]at eM;obtain⟨cs,e4,hK,hZ,hQ,h4,g4,-,di,-⟩:=eM;subst g4;simp only[oG]at e4;obtain⟨⟨rfl,rfl⟩,-⟩:=e4
    have f':Hid (∀k∈(iv (aQ x y l) p).kids.aR,0≤k.1∧k.1<(nd x p.1).kids.length∧0≤k.2∧k.2<(nd y p.2).kids.length):=fun k G=>by
     rcases tX x y l p with h|⟨jr,_,h⟩;·rw[h,Ek]at G;simp at G
     ·rw[h]at G;obtain⟨q1,dW,dX,fC,_⟩:=pW (x:=x) (y:=y) (p:=p) G;exact⟨q1,dW,dX,fC⟩
    generalize(iv (aQ x y l) p).kids.aR=aM at*;have fe:(mn 217 (.map (some (w0.heap.size+1))) (.agg #[af ae p.1,af ae p.2]) false).run ai (M.alloc (au #[af ae p.1,af ae p.2] 79))= .ok (af ae aO) (M.alloc (au #[af ae p.1,af ae p.2] 79)):=by have jO:=S.below.size;have:=bd.out.look p 217 3 (af ae 0) sF (fun _=>by kernel_rfl) (M.alloc (au #[af ae p.1,af ae p.2] 79)) (by rw[fp _ _ _ (by omega)];exact S.below.block _ d1);rw[←ce,c8.out aO a1]at this;rw[←ce];exact this
    have ga:=aa di;have iR:=di.1.len.1;have S':=aa S;have bN:=aa bg;have gR:=ec.out.len;rw[de.out]at gR;have hp:(0:Int)≤(aO:Int):=by omega
    have hq:(aO:Int)<(l.length:Int):=by omega
    generalize gQ:m++ff x y (aQ x y l) p=T at*;have iE:cG≠M.heap.size:=by omega
    clear S bg aY dk di gQ ce;have gE:Hid (hS h1 w1 (M.alloc (au #[af ae p.1,af ae p.2] 79)) cG (ag (some ⟨cG,0,none⟩) m.length gI) m (M.alloc (au #[af ae p.1,af ae p.2] 79))):=⟨S'.out.alloc _,bN.out.alloc _,kC _ _,.inl rfl⟩
    go_wp2_with fail;clear fe;go_loopw[17,21,107,108,109,110,111,112,113,114,115,116,117,118,119,120,121,122,123,124,125,126,127,128,129,130,131,132,133,134,135] (fun v _ i _ _ _ _ _ _ _ _ _ _ _ _ _ _ _ _ _ _ _ _ _ _ _ _ _ _ _ _ wr=>∃(k:Nat) (n:List (Int×Int)),k≤aM.length∧i=af ae k∧hS h1 w1 (M.alloc (au #[af ae p.1,af ae p.2] 79)) cG v n wr∧Hid (n++(aM.drop k).map (gC x y p)=T)) (fun _ _ i _ _ _ _ _ _ _ _ _ _ _ _ _ _ _ _ _ _ _ _ _ _ _ _ _ _ _ _ _=>aM.length-(intOf i).toNat);case atStart=>exact⟨0,m,Nat.zero_le _,rfl,gE.out,gh.out.symm⟩
    case round=>
     obtain⟨k,n,G,rfl,ab,RT⟩:=hrel;obtain⟨bX,bY,rfl⟩:=Ow.shape ab.own;have eG:wr.cell? ⟨M.heap.size,0,none⟩=some (af ae p.1):=ta ab.grown (fun k G=>by simp only[aC]at G;omega) 0;have eH:wr.cell? ⟨M.heap.size,1,none⟩=some (af ae p.2):=ta ab.grown (fun k G=>by simp only[aC]at G;omega) 1;have fu:M.heap.size<wr.heap.size:=by have:=ab.grown.size;simp at this;omega
     by_cases fg:k<aM.length
     ·obtain⟨hP,h3,ft,-,cQ⟩:=ga.out.open;simp only[bU,true_and]at ft;obtain⟨rfl,rfl⟩:=ft;obtain⟨hT,jq,rfl,is,cQ⟩:=cQ wr ab.st.I (by omega);obtain⟨ib,id⟩:=cQ k fg;obtain⟨hl,hm,hn,ho⟩:=f'.out aM[k] (by simp);have bO:Hid ((n++[gC x y p aM[k]])++(aM.drop (k+1)).map (gC x y p)=T):=by have:=RT.out;rw[List.drop_eq_getElem_cons fg,List.map_cons]at this;unfold Hid;rw[fI];exact this
      generalize aM[k]=E at*;have iP:n.length+1≤T.length:=by rw[←bO.out];simp
      have e7:E.1.toNat<(nd x p.1).kids.length:=by omega
      have e':E.2.toNat<(nd y p.2).kids.length:=by omega
      obtain⟨g2,ci⟩:=cu.out wr (fun b c cd=>ab.st.I b c (aX.out.le b c cd));obtain⟨g3,cj⟩:=cv.out wr (fun b c cd=>ab.st.I b c (aX.out.le b c cd));obtain⟨eD,cC,-,-,-,eK,-,e8,-⟩:=ci p.1 dQ dR;obtain⟨eE,cD,-,-,-,eL,-,fb,-⟩:=cj p.2 dT dU;obtain⟨bm,cS,hW,e9,iI,cM⟩:=e8.gA (by omega);simp only[bU,true_and]at e9;obtain⟨rfl,rfl⟩:=e9;obtain⟨bp,cU,hX,fc,iJ,cN⟩:=fb.gA (by omega);simp only[bU,true_and]at fc;obtain⟨rfl,rfl⟩:=fc;have b9:ao h wr:=fun b c cd=>ab.st.I b c (aX.out.le b c cd);have eI:=(cM wr b9).2 _ e7;have eJ:=(cN wr b9).2 _ e';have gX:=(cM wr b9).1;have g0:=(cN wr b9).1;have cc:ao h w1:=aX.out.gq;have i4:bx<w1.heap.size:=(cu.out w1 cc).1;have i5:ax<w1.heap.size:=(cv.out w1 cc).1;have i6:bm<w1.heap.size:=(cM w1 cc).1;have i7:bp<w1.heap.size:=(cN w1 cc).1;have iT:w1.heap.size≤wr.heap.size:=ab.st.below.size;have aV:∀b,b<w1.heap.size→(ag bX n.length bY).ownBlock≠some b:=fun b aL e=>by have:=(ab.own.lt _ e).1;omega
      have fn:(ag bX n.length bY).ownBlock≠some M.heap.size:=by
       rcases ab.bi with e|⟨q,e,O⟩;·rw[e];simp only[ne_eq,aC];omega
       ·rw[e];simp only[ne_eq,aC];simp at O;omega
      have dB:(ag bX n.length bY).ownBlock≠some wr.heap.size:=fun e=>by have:=(ab.own.lt _ e).2;omega
      have f7:=aa aV;have f8:Hid ((ag bX n.length bY).ownBlock≠some M.heap.size):=fn;have f9:Hid ((ag bX n.length bY).ownBlock≠some wr.heap.size):=dB;have g6:Hid (((nd x p.1).kids[E.1.toNat],(nd y p.2).kids[E.2.toNat])=gC x y p E):=by unfold Hid gC;rw[dj _ _ _ e7,dj _ _ _ e']
      generalize(nd x p.1).kids[E.1.toNat]=dF at*;generalize(nd y p.2).kids[E.2.toNat]=dG at*;have dn:=aa (ab.alloc (au #[af ae E.1,af ae E.2] 79));clear cM cN ci cj cQ aV fn dB ab RT e8 fb b9 cc;go_upto_region 21 with fail;have fQ:(wr.alloc (au #[af ae E.1,af ae E.2] 79)).cell? ⟨wr.heap.size,0,none⟩=some (af ae E.1):=by rw[cJ _ _ _ _ rfl];rfl
      have fR:(wr.alloc (au #[af ae E.1,af ae E.2] 79)).cell? ⟨wr.heap.size,1,none⟩=some (af ae E.2):=by rw[cJ _ _ _ _ rfl];rfl
      have fU:(wr.alloc (au #[af ae E.1,af ae E.2] 79)).cell? ⟨M.heap.size,0,none⟩=some (af ae p.1):=by rw[eg _ _ _ fu];exact eG
      have fV:(wr.alloc (au #[af ae E.1,af ae E.2] 79)).cell? ⟨M.heap.size,1,none⟩=some (af ae p.2):=by rw[eg _ _ _ fu];exact eH
      have fW:(wr.alloc (au #[af ae E.1,af ae E.2] 79)).cell? ⟨bx,a5+p.1.toNat*5+3,none⟩=some (ag (some ⟨bm,cS,none⟩) (nd x p.1).kids.length cC):=by rw[eg _ _ _ g2];exact eK
      have jI:(wr.alloc (au #[af ae E.1,af ae E.2] 79)).cell? ⟨ax,a8+p.2.toNat*5+3,none⟩=some (ag (some ⟨bp,cU,none⟩) (nd y p.2).kids.length cD):=by rw[eg _ _ _ g3];exact eL
      have jJ:(wr.alloc (au #[af ae E.1,af ae E.2] 79)).cell? ⟨bm,cS+E.1.toNat,none⟩=some (af ae dF):=by rw[eg _ _ _ gX];exact eI
      have jK:(wr.alloc (au #[af ae E.1,af ae E.2] 79)).cell? ⟨bp,cU+E.2.toNat,none⟩=some (af ae dG):=by rw[eg _ _ _ g0];exact eJ
      have hC:(wr.alloc (au #[af ae E.1,af ae E.2] 79)).heap.size=wr.heap.size+1:=by simp
      clear eG eH eK eL eI eJ;generalize gW:wr.alloc (au #[af ae E.1,af ae E.2] 79)=a9 at*;clear gW;have iZ:wr.heap.size<a9.heap.size:=by omega
      have l2:M.heap.size<a9.heap.size:=by omega
      have i0:bx<a9.heap.size:=by omega
      have i1:ax<a9.heap.size:=by omega
      have i2:bm<a9.heap.size:=by omega
      have i3:bp<a9.heap.size:=by omega
      clear hC
      go_region_held3(fun w'=>w'.cell? ⟨wr.heap.size,0,none⟩=some (af ae E.1)∧w'.cell? ⟨wr.heap.size,1,none⟩=some (af ae E.2)∧w'.cell? ⟨M.heap.size,0,none⟩=some (af ae p.1)∧w'.cell? ⟨M.heap.size,1,none⟩=some (af ae p.2)∧
        w'.cell? ⟨bx,a5+p.1.toNat*5+3,none⟩=some (ag (some ⟨bm,cS,none⟩) (nd x p.1).kids.length cC)∧w'.cell? ⟨ax,a8+p.2.toNat*5+3,none⟩=some (ag (some ⟨bp,cU,none⟩) (nd y p.2).kids.length cD)∧
        w'.cell? ⟨bm,cS+E.1.toNat,none⟩=some (af ae dF)∧w'.cell? ⟨bp,cU+E.2.toNat,none⟩=some (af ae dG))
       (first|go_keep|(go_split_ands;refine⟨?_,?_,?_,?_,?_,?_,?_,?_⟩<;>(rw[(dt.cellOf (by simp;omega) (by first|exact f9.out|exact f8.out|exact f7.out _ (by assumption))).1];assumption)))
       ((refine gS q3 (by rfl) _ _ (by rfl) ((dn.out.st.alloc _).drewN _) _ n.length _ (by rfl) ((dn.out.own.alloc _).drewN _) ⟨a9.heap.size,0,none⟩ 1 1 (bV (dF,dG)) (by rfl) (by rfl) (cK _ _ _ _ (by simp)) (cm _ rfl) (by omega) (by omega) ?_;intro ip cg w3 fD fB dt eF))
      go_wp2_with fail;have gD:=aa ((dn.out.drewN _).lP fD fB dt eF);clear fD fB dt eF;go_roundw
      case rel=>
       repeat apply Exists.intro
       refine⟨?_,rfl⟩;exact⟨k+1,n++[gC x y p E],by omega,by go_num,by rw[←g6.out];exact gD.out,bO⟩
      case measure=>simp[intOf];omega
     ·obtain rfl:k=aM.length:=by omega
      have bO:=RT.out;rw[mu,List.map_nil,List.append_nil]at bO;subst bO;go_wp2_with fail;go_roundw;case rel=>exact⟨j+1,n,by go_num,ab.st,ab.own,ec.out,gw,by unfold Hid;rw[←R.out,ge.out (by omega) (by omega)];congr 1⟩
      case measure=>simp[intOf];omega
   ·obtain rfl:j=m.length:=by omega
    obtain⟨cA,cE,rfl⟩:=Ow.shape bg;have e1:Hid (pX x y l=m):=by unfold Hid pX;rw[de.out,←R.out,pN (an _) (by omega)];rfl
    have S':=aa S;have bN:=aa bg;have f3:=aa aY;clear S bg aY R;go_wp2_with fail;refine(tA h1 _ S'.out.I w1.heap.size _ m (by omega) bN.out).mono ?_;rintro e Y ⟨rfl,eO,fA⟩;have aP:=S'.out.grown eO (fun k G=>⟨(bN.out.lt k G).1,bN.out.free k G⟩);have dD:(cq m).length=m.length:=List.length_mergeSort _;have er:jp (h1.fr w1.heap.size Y) (ag cA m.length cE) (cq m):=by refine⟨by rw[dD];exact Ow.sl fA (by omega),fun q O=> ?_⟩;have:=f3.out.inr q ((List.mergeSort_perm m _).mem_iff.1 O);unfold bZ at this;unfold aG;omega
    have d9:=aP.fr;have d3:mF (h1.fr w1.heap.size Y) (ag (some ⟨g,0,none⟩) l.length l.length) (aQ x y l):=fX.out.mono (Hp.gQ aP.I);have cB:=((co.out Y aP.I).2 0 (by rw[bE.out];exact b0))
    obtain⟨-,-,-,-,-,-,cB,-,-,-,-,-,-,dr,-⟩:=cB;rw[←dj (aQ x y l) 0 default (by rw[bE.out];exact b0)]at cB dr;simp only[Nat.zero_mul,dz,cO]at cB;have iC:g<Y.heap.size:=(co.out Y aP.I).1;have d7:=aX.out.call d9;have hI:Hid (w1.heap.size≤Y.heap.size):=aP.below.size;generalize h1.fr w1.heap.size Y=dv at*;have ad:=aa d7;have gA:=aa er;have fY:=aa d3;clear aP d9 er eO fA d7 d3;have iU:w.heap.size<Y.heap.size:=by have:=ad.out.below.size;rw[ek.out]at this;omega
    have aO:Y.cell? ⟨w.heap.size,0,none⟩=some (ag none 0 0):=(fS aj.out ad.out.below 0).1;have k1:Y.cell? ⟨w.heap.size,1,none⟩=some (af ae 0):=(fS aj.out ad.out.below 1).1;have k2:Y.cell? ⟨w.heap.size,2,none⟩=some (ay false):=(fS aj.out ad.out.below 2).1;have k3:Y.cell? ⟨w.heap.size,3,none⟩=some (af ae 0):=(fS aj.out ad.out.below 3).1;have k4:Y.cell? ⟨w.heap.size,4,none⟩=some (ag none 0 0):=(fS aj.out ad.out.below 4).1;have jL:=(fS aj.out ad.out.below 0).2;have d1:=(fS aj.out ad.out.below 1).2;have hD:=(fS aj.out ad.out.below 2).2;have d2:=(fS aj.out ad.out.below 3).2;have hE:=(fS aj.out ad.out.below 4).2;have iS:(0:Int)<(l.length:Int):=by omega
    go_wp2_with fail;have ch:dv w.heap.size=none:=by rw[ad.out.aI _ (by rw[ek.out];omega)];exact bI db.out _ (an _)
    have gG:St w.heap.size h w dv Y:=by have h1:=(St.refl db.out).alloc (au #[ag none 0 0,af ae 0,ay false,af ae 0,ag none 0 0] 76);rw[aj.out]at h1;exact h1.call ad.out
    refine bodyPost_ret (v:= .agg #[ag cA m.length cE,af ae ((aQ x y l).getD 0 default).cost,ay true,af ae ((aQ x y l).getD 0 default).cost,ag (some ⟨g,0,none⟩) l.length l.length]) (by simp[results,Tryz.results106,go_sem,aO,k1,k2,k3,k4]) rfl ?_;have gH:=((((gG.setCell (p:=⟨w.heap.size,0,none⟩) (an _) ch (ag cA m.length cE)).setCell (p:=⟨w.heap.size,1,none⟩) (an _) ch (af ae ((aQ x y l).getD 0 default).cost)).setCell (p:=⟨w.heap.size,2,none⟩) (an _) ch (ay true)).setCell (p:=⟨w.heap.size,3,none⟩) (an _) ch (af ae ((aQ x y l).getD 0 default).cost)).setCell (p:=⟨w.heap.size,4,none⟩) (an _) ch (ag (some ⟨g,0,none⟩) l.length l.length);refine⟨_,rfl,dv,gH,cA,cE,some ⟨g,0,none⟩,l.length,?_,?_,?_,?_,?_⟩;·simp[iO,e1.out,dD,bE.out]
    ·exact dr
    ·exact dr
    ·simp only[iO,e1.out,dD];exact gA.out
    ·simp only[iO,bE.out];exact fY.out
end Go.Proofs.YtdplggpbgommnaaGreatDoor
