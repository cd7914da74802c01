/- The parser: a file of one function. -/
import Derived.Test.YtdplggpbgommnaaGreatDoorG26
import Derived.Test.YtdplggpbgommnaaGreatDoorG28
import Derived.Test.YtdplggpbgommnaaGreatDoorKi2
import Derived.Test.YtdplggpbgommnaaGreatDoorKi3
import Derived.Test.YtdplggpbgommnaaGreatDoorKi4
open Go renaming bodyPost_ret→aF,run_underlying→gl
open Go.Addr.mk renaming injEq→cx
open Go.Instr renaming findNow→ml,sameNow→qy
open Go.IntKind renaming i64→ae
open Go.Lib renaming hid→aa
open Go.Obj renaming cells→au
open Go.Proofs.Tryz renaming prog→ai
open Go.RowKit.Below renaming heap_setCell→cH
open Go.Value renaming agg→aq,int→af,pointer→az,slice→ag,string→ah
open Go.Value.slice renaming injEq→bU
open List renaming dropWhile_cons→KG,flatMap_cons→fH,getElem?_append_right→ih,getElem?_cons_succ→bQ,getElem?_cons_zero→bc,getElem?_eq_getElem→aE,getElem?_eq_none→gM,getElem?_toArray→bw,getElem_append_left→mf,getElem_cons_zero→dJ,getElem_map→eU,getElem_mem→aK,getElem_set→mg,length_append→cI,length_cons→bF,length_map→dL,length_nil→cL,map_cons→cR,map_set→hL,range→aw,replicate_succ→pu,replicate→aA,setIfInBounds_toArray→bh,set_cons_zero→be
open List.cons renaming injEq→ii
open Nat renaming add_assoc→bP,add_comm→sK,add_mul→gN,le_refl→an,lt_or_ge→b7
open Option renaming bind_some→j2,getD_some→fs,map_some→fa
open Option.some renaming injEq→aC,inj→aU
open Prod.mk renaming injEq→jg
set_option maxRecDepth 100000
set_option maxHeartbeats 4000000
namespace Go.Proofs.YtdplggpbgommnaaGreatDoor
open Go.RowKit
def AN(h:Hp)(w:World)(p:Nat)(name l0 l1:ByteArray)(T:Tree)(v:Value)(w':World):Prop:=
 ∃(h':Hp) (b2 g9 c9:Nat) (cells:List Value),v=aq #[af ae 1,ah name,ag (some ⟨b2,0,none⟩) 3 3,ag (some ⟨g9,0,none⟩) 1 c9]∧bB p h w h' w'∧bJ h' w' p []∧Has w' b2 #[ah l0,ah l1,ah ⟨#[]⟩]∧h' b2=none∧w.heap.size≤b2∧b2≠p∧Sl h' (ag (some ⟨g9,0,none⟩) 1 c9) 1 4 cells∧aJ (bg h') [T] cells
theorem H8{p b1 b2 b3 A E:Nat}{h M:Hp}{w W:World}{name ab ac:ByteArray}{T:Tree}{ad aj ak am:Value}(D:eb p b1 b2 b3 h w M W [] 1 name 3 #[ah ab,ah ac,ah ⟨#[]⟩] (ag (some ⟨A,0,none⟩) 1 E))(Y:Ow W M b1 26 4 (ag (some ⟨A,0,none⟩) 1 E) 1 [ad,aj,ak,am])(ao:aP M (aq #[ad,aj,ak,am]) T)(O:A≠b1∧A≠b2∧A≠b3∧A≠p):AN h w p name ab ac T (aq #[af ae 1,ah name,ag (some ⟨b2,0,none⟩) 3 3,ag (some ⟨A,0,none⟩) 1 E]) ((((W.setCell ⟨b1,0,none⟩ (af ae 1)).setCell ⟨b1,1,none⟩ (ah name)).setCell ⟨b1,2,none⟩ (ag (some ⟨b2,0,none⟩) 3 3)).setCell ⟨b1,3,none⟩ (ag (some ⟨A,0,none⟩) 1 E)):=by
 obtain⟨h',aL,l2,ax,aM⟩:=Y.giveUp D.st.I (by omega);have G:∀b,b≠A→h' b=M b:=fun b h2=>ax b (fun g aG=>by have e:A=g:=aU aG;subst e;exact h2)
 have aO:=(Y.lt A rfl).1;have aN:=D.g1;have S:bB p h w h' W:=⟨D.st.gr,aL,Hp.le_trans D.st.le l2,fun b aB=>(G b (by omega)).trans (D.st.aI b aB)⟩
 have Q:bJ h' W p []:=D.par.U rfl (an _) l2 ((G p (fun e=>O.2.2.2 e.symm)).trans D.par.no);exact⟨h',b2,A,E,_,rfl,S.aM D.g1 ((G b1 (fun e=>O.1 e.symm)).trans D.n1) _ _ _ _,Q.aM D.p1 _ _ _ _,D.r.o4 D.d12 _ _ _ _,(G b2 (fun e=>O.2.1 e.symm)).trans D.n2,D.g2,D.p2,aM,aJ.one ((u0 ao).mono l2)⟩
theorem H9{h:Hp}{v:Value}{s M O l2 Y ab ac:ByteArray}{a b:Tree}(T:aP h v (.node 2 s [M,O,l2,Y,ab,ac] [a,b])):∃E G A ck,v=aq #[af ae 2,ah s,ag E 6 G,ag A 2 ck]:=by obtain⟨_,_,_,_,_,e,_⟩:=T.open;exact⟨_,_,_,_,e⟩
theorem Ia(h:Hp)(w:World)(bN:ao h w)(p:Nat)(ax E d n l r c aJ e O ad Y:cU)(q:bJ h w p [ax,E,d,n,l,r,c,aJ,e,O,ad,Y])(cl:ax.text=⟨#[109,111,100,117,108,101]⟩)(cn:E.kind=2)(bL:d.text=⟨#[100,101,102]⟩)(co:n.kind=1)(ci:l.text=⟨#[40]⟩)(ct:r.text=⟨#[41]⟩)(cf:c.text=⟨#[58]⟩)(cu:aJ.text=⟨#[73,110,116]⟩)(ch:e.text=⟨#[61]⟩)(k1:O.kind=5)(cS:lm O.text)(cB:mV ad.text=true)(k3:Y.kind=5)(cV:lm Y.text):Calls ai 44 #[az (some ⟨p,0,none⟩)] w fun aT w'=>∃v,aT= .returned v∧AN h w p E.text ax.lead E.lead (.node 2 n.text [d.lead,n.lead,l.lead,r.lead,c.lead,e.lead] [.node 5 ⟨#[]⟩ [aJ.lead] [],.node 21 ad.text [ad.lead] [.node 10 O.text [O.lead] [],.node 10 Y.text [Y.lead] []]]) v w':=by
 have a1:=aa bN;have Q:=aa q;have dY:w.heap.size≠p:=by have:=q.lt;omega
 have c8:=nX;have du:∀W:World,(Instr.makeSlice 24 (af ae 3) (af ae 3)).run ai W= .ok (ag (some ⟨W.heap.size,0,none⟩) 3 3) (W.alloc (.cells #[ah ⟨#[]⟩,ah ⟨#[]⟩,ah ⟨#[]⟩] 9)):=fun W=>(zR 3 (by omega) W).trans (by rw[show madeCells #[ah ⟨#[]⟩] (3*1)= #[ah ⟨#[]⟩,ah ⟨#[]⟩,ah ⟨#[]⟩]from by kernel_rfl]);clear bN q;go_enter Tryz.func44,Tryz.ntmps44;go_wp2_with fail;have dt:=Q.out.lt
 have ac:Hid (eb p w.heap.size (w.heap.size+1) (w.heap.size+1+1) h w h (((w.alloc (au #[af ae 0,ah ⟨#[]⟩,ag none 0 0,ag none 0 0] 26)).alloc (au #[ah ⟨#[]⟩,ah ⟨#[]⟩,ah ⟨#[]⟩] 9)).alloc (au #[af ae 1,ah ⟨#[]⟩,ag (some ⟨w.heap.size+1,0,none⟩) 3 3,ag none 0 0] 26)) [ax,E,d,n,l,r,c,aJ,e,O,ad,Y] 1 ⟨#[]⟩ 3 #[ah ⟨#[]⟩,ah ⟨#[]⟩,ah ⟨#[]⟩] (ag none 0 0)):=by
  have cc:((w.alloc (au #[af ae 0,ah ⟨#[]⟩,ag none 0 0,ag none 0 0] 26)).alloc (au #[ah ⟨#[]⟩,ah ⟨#[]⟩,ah ⟨#[]⟩] 9)).heap.size=w.heap.size+1+1:=by simp
  have y:=Has.new ((w.alloc (au #[af ae 0,ah ⟨#[]⟩,ag none 0 0,ag none 0 0] 26)).alloc (au #[ah ⟨#[]⟩,ah ⟨#[]⟩,ah ⟨#[]⟩] 9)) #[af ae 1,ah ⟨#[]⟩,ag (some ⟨w.heap.size+1,0,none⟩) 3 3,ag none 0 0] 26;rw[cc]at y;exact⟨(((bB.refl a1.out).alloc _).alloc _).alloc _,((Q.out.alloc _).alloc _).alloc _,((Has.new w _ _).alloc _).alloc _,(Has.kY w _ _ _).alloc _,y,bI a1.out _ (by omega),bI a1.out _ (by omega),bI a1.out _ (by omega),by omega,by omega,by omega,by omega,by omega,by omega,by omega,by omega,by omega⟩
 generalize((w.alloc (au #[af ae 0,ah ⟨#[]⟩,ag none 0 0,ag none 0 0] 26)).alloc (au #[ah ⟨#[]⟩,ah ⟨#[]⟩,ah ⟨#[]⟩] 9)).alloc (au #[af ae 1,ah ⟨#[]⟩,ag (some ⟨w.heap.size+1,0,none⟩) 3 3,ag none 0 0] 26)=w0 at*;have dj:w.heap.size≠w.heap.size+1:=by omega
 have dk:w.heap.size≠w.heap.size+1+1:=by omega
 have cd:w.heap.size+1≠w.heap.size+1+1:=by omega
 have dm:w.heap.size+1+1≠w.heap.size+1:=by omega
 generalize w.heap.size+1+1=b3 at*;generalize w.heap.size+1=b2 at*;generalize w.heap.size=b1 at*;have aY:=ac.out.b.cl 2;have aX:=ac.out.b.cl 1;have a5:=ac.out.b.fz 1;have a8:=ac.out.r.fz 0;have aN:=ac.out.r.cl 0;have bv:=ac.out.r.lt;have aZ:=ac.out.b.lt;simp only[bw,bc,bQ]at aX aY aN;go_region_held3(fun w'=>w'.cell? ⟨b3,2,none⟩=some (ag (some ⟨b2,0,none⟩) 3 3)) (first|(go_keep;done)|exact am) (first|(go_at_call 90;(with_reducible refine(o3 h _ (by exact ac.out.st.I.drew) p ax [E,d,n,l,r,c,aJ,e,O,ad,Y] (by exact ac.out.par.drew) _ cl).mono ?_);rintro aT ab ⟨rfl,aG,aB⟩;have A:=aa (ac.out.drew.call aG aB);have am:=A.out.b.cl 2;have a9:=A.out.r.fz 0;have aO:=A.out.r.cl 0;have bz:=A.out.r.lt;have a3:=A.out.b.lt;simp only[bw,bc,bQ]at am aO;clear aG aB));have G:=aa (A.out.lead 0 (by simp) (ah ax.lead));simp only[bh,be]at G;clear aX aY a5 a8 aN bv aZ;clear am a9 aO bz a3 A;generalize ab.setCell ⟨b2,0,none⟩ (ah ax.lead)=dA at*;go_wp2_with fail;have aY:=G.out.b.cl 2;have aX:=G.out.b.cl 1;have a5:=G.out.b.fz 1;have a8:=G.out.r.fz 1;have aN:=G.out.r.cl 1;have bv:=G.out.r.lt;have aZ:=G.out.b.lt;simp only[bw,bc,bQ]at aX aY aN;go_region_held3(fun w'=>w'.cell? ⟨b3,2,none⟩=some (ag (some ⟨b2,0,none⟩) 3 3)) (first|(go_keep;done)|exact am|exact rX (by decide) am|exact zS cd (rX (by decide) am)) (first|(go_at_call 91;(with_reducible refine(zj h _ (by exact G.out.st.I.drew) p E [d,n,l,r,c,aJ,e,O,ad,Y] (by exact G.out.par.drew) 2 2 cn (by omega)).mono ?_);rintro aT ab ⟨rfl,aG,aB⟩;have A:=aa (G.out.drew.call aG aB);have am:=A.out.b.cl 2;have bO:=A.out.b.cl 1;have bY:=A.out.b.fz 1;have a9:=A.out.r.fz 1;have aO:=A.out.r.cl 1;have bz:=A.out.r.lt;have a3:=A.out.b.lt;simp only[bw,bc,bQ]at bO am aO;clear aG aB));have aj:=aa ((A.out.named E.text).lead 1 (by simp) (ah E.lead));simp only[bh,be,List.set_cons_succ]at aj;clear aX aY a5 a8 aN bv aZ;clear bO am bY a9 aO bz a3 A;generalize(ab.setCell ⟨b3,1,none⟩ (ah E.text)).setCell ⟨b2,1,none⟩ (ah E.lead)=cQ at*;have L2:=aa aj.out.par.left;go_wp2_with fail;go_loopw[4,21,22,23,24,25,26,27,28,29,30,31,32,33,34,35,36,37,38,39,40,41,42,43,44,45,46,47,48,49,50,51,52,53,54,55,56,57,58,59,60,61,62] (fun _ _ _ _ _ _ _ _ _ _ _ _ _ _ _ _ _ _ _ _ _ _ _ _ _ _ _ _ _ _ _ _ _ _ _ _ _ _ _ _ _ _ _ wr=>wr=cQ∨∃(a2:Hp) (ak aS:Nat) (bg bm bp bq:Value),eb p b1 b2 b3 h w a2 wr [] 1 E.text 3 #[ah ax.lead,ah E.lead,ah ⟨#[]⟩] (ag (some ⟨ak,0,none⟩) 1 aS)∧Ow wr a2 b1 26 4 (ag (some ⟨ak,0,none⟩) 1 aS) 1 [bg,bm,bp,bq]∧aP a2 (aq #[bg,bm,bp,bq]) (.node 2 n.text [d.lead,n.lead,l.lead,r.lead,c.lead,e.lead] [.node 5 ⟨#[]⟩ [aJ.lead] [],.node 21 ad.text [ad.lead] [.node 10 O.text [O.lead] [],.node 10 Y.text [Y.lead] []]])∧ak≠b1∧ak≠b2∧ak≠b3∧ak≠p) (fun _ _ _ _ _ _ _ _ _ _ _ _ _ _ _ _ _ _ _ _ _ _ _ _ _ _ _ _ _ _ _ _ _ _ _ _ _ _ _ _ _ _ _ wr=>rQ wr p);case atStart=>exact .inl rfl
 case round=>
  rcases hrel with rfl|⟨a2,ak,aS,bg,bm,bp,bq,M,bE,bG,cA⟩
  ·obtain⟨bk,dv,ck,cC,cE,bZ,aL,-,dX,-,dO,cX,cY,-,-⟩:=aj.out.par.tok aj.out.st.I;have bA:=aL.cl 0;have c6:=aL.lt;simp only[bw,bc,bF,cL]at bA;clear aL;go_wp2_with fail;refine(mU h _ aj.out.st.I p d _ aj.out.par).mono ?_;rintro aT ab ⟨rfl,ba⟩;have aM:=aa (aj.out.call (bB.below aj.out.st.I ba) (aj.out.par.below ba));rw[bL];clear ba;have cv:=aM.out.b.cl 3;have aN:=aM.out.b.fz 3;have aZ:=aM.out.b.lt;simp only[bw,bc,bQ]at cv;generalize ab=dB at*;go_wp2_with fail;go_region_law(first|(go_simp;go_at_call 94;(with_reducible refine(Hb h _ (by exact aM.out.st.I.drew) p d n l r c aJ e O ad Y (by exact aM.out.par.drew) bL co ci ct cf cu ch k1 cS cB k3 cV).mono ?_);rintro aT ab ⟨dC,rfl,ce,aG,aB,a4⟩;obtain⟨cN,cF,cM,cG,rfl⟩:=H9 a4;have A:=aa (aM.out.drew.call aG aB);have bX:=aa a4;have cw:=A.out.b.cl 3;have aO:=A.out.b.fz 3;have a3:=A.out.b.lt;have dU:b3<ab.heap.size+1:=(by omega);simp only[bw,bc,bQ]at cw;clear aG aB a4)|(refine gS iJ (by rfl) _ _ (by rfl) (St.dN (B:=ab.heap.size) (by exact(A.out.alloc _).st.I) (by simp)) (ag none 0 0) 0 [] (by rfl) (Ow.nil _ _ _ _ _) ⟨ab.heap.size,0,none⟩ 1 1 [af ae 2,ah n.text,ag cN 6 cF,ag cM 2 cG] (by rfl) (by rfl) (cK _ _ _ _ (by simp)) (cm _ rfl) (by omega) (by omega) ?_;intro aV cg dD cD bd bH b0;have aQ:=aa ((A.out.alloc _).grown bH (fun g e=>(by simp[Value.ownBlock]at e)));have bT:=aa bd;have bR:Hid (ab.heap.size≤aV):=(bd.lt aV rfl).1;have cz:=aQ.out.b.cl 3;have c9:=aQ.out.b.fz 3;have dW:=aQ.out.b.lt;simp only[bw,bc,bQ]at cz;clear cD bd bH b0))
   all_goals
    go_wp2_with fail;go_roundw
    case rel=>
     have cX:=A.out.x.lt;have cY:=A.out.r.lt;have dP:=A.out.b.lt;have dQ:=A.out.par.lt;have dR:=bR.out;have cZ:b1≤ab.heap.size:=by omega
     exact .inr ⟨ce,aV,cg,_,_,_,_,aQ.out.b4 _,(bT.out.base cZ).setCell (p:=⟨b3,3,none⟩) (fun q=>by have dw:aV=b3:=aU q;omega) _,bX.out,by omega,by omega,by omega,by omega⟩
    case measure=>have cq:=(aQ.out.b4 (ag (some ⟨aV,0,none⟩) 1 cg)).par.left;have cj:=L2.out;simp only[cL,bF]at cq cj;omega
  ·have bC:=aa M;have bS:=aa bE;have bV:=aa bG;obtain⟨db,ck,cC,cE,bZ,aL,-⟩:=M.par.row;have bA:=aL.cl 0;have c6:=aL.lt;obtain⟨de,dg,dh,di⟩:=M.b.jU;obtain⟨dE,dF,dG,dN⟩:=M.x.jU;have dn:=M.x.fz 0;have dp:=M.x.fz 1;have dq:=M.x.fz 2;have dr:=M.x.fz 3;have dT:=M.x.lt;have aZ:=M.b.lt;simp only[bw,bc,cL]at bA;clear aL M bE bG;go_wp2_with fail;obtain⟨b9,c1,c2,c3⟩:=(bC.out.x.mW (af ae 1) (ah E.text) (ag (some ⟨b2,0,none⟩) 3 3) (ag (some ⟨ak,0,none⟩) 1 aS)).jU;refine aF (v:=aq #[af ae 1,ah E.text,ag (some ⟨b2,0,none⟩) 3 3,ag (some ⟨ak,0,none⟩) 1 aS]) (by simp[results,Tryz.results44,go_sem,b9,c1,c2,c3]) rfl ⟨_,rfl,H8 bC.out bS.out bV.out cA⟩
theorem AO(h:Hp)(b:Nat)(c:Array Value):(h.add b c) b=some c:=by unfold Hp.add;rw[if_pos rfl]
theorem AP{h:Hp}{b2 G E:Nat}{name M O l2:ByteArray}{T:Tree}{A:List Value}(ab:h b2=some #[ah M,ah O,ah l2])(ac:Sl h (ag (some ⟨G,0,none⟩) 1 E) 1 4 A)(Y:aJ (bg h) [T] A):aP h (aq #[af ae 1,ah name,ag (some ⟨b2,0,none⟩) 3 3,ag (some ⟨G,0,none⟩) 1 E]) (.node 1 name [M,O,l2] [T]):=by refine⟨_,rfl,?_⟩;rw[bg];exact⟨_,_,_,_,A,rfl,by unfold aG;omega,⟨_,_,rfl,by simp,rfl,.inr ⟨b2,0,_,rfl,ab,fun i ad=>by simp⟩⟩,ac,eH.iff.2 Y⟩
theorem u9(h:Hp)(w:World)(bE:ao h w)(s:ByteArray)(cv:s.size≤4096)(bC:∀i,i<s.size→bt s i≠35)(E A d n l r c aG e Y ad ab:cU)(am:ByteArray)(bG:oT s=([E,A,d,n,l,r,c,aG,e,Y,ad,ab],am,0,0))(co:E.text=⟨#[109,111,100,117,108,101]⟩)(cq:A.kind=2)(cl:d.text=⟨#[100,101,102]⟩)(ct:n.kind=1)(cn:l.text=⟨#[40]⟩)(cu:r.text=⟨#[41]⟩)(aN:c.text=⟨#[58]⟩)(cw:aG.text=⟨#[73,110,116]⟩)(cm:e.text=⟨#[61]⟩)(k1:Y.kind=5)(cD:lm Y.text)(cB:mV ad.text=true)(k3:ab.kind=5)(cE:lm ab.text):
  Calls ai 21 #[ah s] w fun aB w'=>∃v,aB= .returned (.tuple #[v,af ae 0,af ae 0])∧∃h',St w.heap.size h w h' w'∧aP h' v (.node 1 A.text [E.lead,A.lead,am] [.node 2 n.text [d.lead,n.lead,l.lead,r.lead,c.lead,e.lead] [.node 5 ⟨#[]⟩ [aG.lead] [],.node 21 ad.text [ad.lead] [.node 10 Y.text [Y.lead] [],.node 10 ab.text [ab.lead] []]]]):=by
 have aZ:=aa bE;have ba:=aa bG;have bT:=aa bC;clear bE bG bC;go_enter Tryz.func21,Tryz.ntmps21;go_wp2_with fail;refine(D1 h _ (aZ.out.alloc _) s cv bT.out).mono ?_;rintro aB w1 ⟨v,rfl,h1,aO,aS,av,aV,bA,aX⟩;rw[ba.out]at aS bA aX;rw[ba.out];subst bA;have bq:Hid (Has w1 w.heap.size #[af ae 0,ah ⟨#[]⟩,ag none 0 0,ag none 0 0]):=(Has.new _ _ _).below aO.below;have a2:=aa (((St.refl aZ.out).alloc (au #[af ae 0,ah ⟨#[]⟩,ag none 0 0,ag none 0 0] 26)).call aO);have bZ:Hid (h1 w.heap.size=none):=(aO.aI _ (by simp)).trans (bI aZ.out _ (an _));have bV:=aa aS;obtain⟨aT,ot,rfl,c6,bH⟩:=aS.cells aO.I (by simp);have du:w1.cell? ⟨aT,ot+1,none⟩=some (ah E.lead):=bH 1 _ rfl;clear aO aS bH;simp only[bF,cL]at aX;have cj:12≤aV:=aX;clear aX;go_wp2_with fail
 have b9:Hid (bJ h1 (w1.alloc (au #[ag (some ⟨aT,ot,none⟩) 12 aV,af ae (E.lead.size:Int),af ae (s.size:Int),af ae 0,af ae 0] 93)) w1.heap.size [E,A,d,n,l,r,c,aG,e,Y,ad,ab]):=
  ⟨bI a2.out.I _ (an _),_,_,_,_,_,Has.new _ _ _,cj,bV.out⟩
 have bv:=aa (bq.out.alloc (au #[ag (some ⟨aT,ot,none⟩) 12 aV,af ae (E.lead.size:Int),af ae (s.size:Int),af ae 0,af ae 0] 93));have bg:=aa (a2.out.alloc (au #[ag (some ⟨aT,ot,none⟩) 12 aV,af ae (E.lead.size:Int),af ae (s.size:Int),af ae 0,af ae 0] 93));have ax:Hid (w.heap.size<w1.heap.size):=bq.out.lt;refine(Ia h1 _ bg.out.I w1.heap.size E A d n l r c aG e Y ad ab b9.out co cq cl ct cn cu aN cw cm k1 cD cB k3 cE).mono ?_;rintro aB w3 ⟨v,rfl,ac,b2,O,M,cG,rfl,aY,bO,bR,bN,bB,dg,bS,bz⟩;have aj:=aa (bv.out.gW aY (Nat.ne_of_lt ax.out));have G:Hid (ac w.heap.size=none):=(aY.aI _ bv.out.lt).trans bZ.out;obtain⟨ap,cp,de,dh,cF,a8,-⟩:=bO.row;have cC:=a8.cl 3;have dv:=a8.lt;obtain⟨dp,dq,dr,dt⟩:=aj.out.jU;have cK:=aj.out.fz 0;have cM:=aj.out.fz 1;have cN:=aj.out.fz 2;have cQ:=aj.out.fz 3;have dA:=aj.out.lt;have c8:w.heap.size≠w1.heap.size:=Nat.ne_of_lt ax.out;have c9:w1.heap.size≠w.heap.size:=Nat.ne_of_gt ax.out;simp only[bw,bc,bQ]at cC;have aJ:=aa aY;have b0:=aa bR;have a1:=aa bN;have bp:=aa bS;have a9:=aa bz;clear aY bO bR bN bS bz a8;go_wp2_with fail;have nx:w.heap.size≠b2:=by have:=ax.out;simp at bB;omega
 have bd:=aa (b0.out.o4 nx (af ae 1) (ah A.text) (ag (some ⟨b2,0,none⟩) 3 3) (ag (some ⟨O,0,none⟩) 1 M));have cg:=aa (aj.out.mW (af ae 1) (ah A.text) (ag (some ⟨b2,0,none⟩) 3 3) (ag (some ⟨O,0,none⟩) 1 M));have cz:=aJ.out.I
 have bY:Hid (ao ac ((((w3.setCell ⟨w.heap.size,0,none⟩ (af ae 1)).setCell ⟨w.heap.size,1,none⟩ (ah A.text)).setCell ⟨w.heap.size,2,none⟩ (ag (some ⟨b2,0,none⟩) 3 3)).setCell ⟨w.heap.size,3,none⟩ (ag (some ⟨O,0,none⟩) 1 M))):=fun b c aN=>by
  have e:b≠w.heap.size:=fun e=>by rw[e,G.out]at aN;cases aN
  exact(oO (by rw[cH _ _ _ _ e,cH _ _ _ _ e,cH _ _ _ _ e,cH _ _ _ _ e])).trans (cz b c aN)
 have aL:=bg.out.grown aJ.out.gr (fun k e=>by have aB:w1.heap.size=k:=aU e;subst aB;exact⟨Nat.le_of_lt ax.out,bI a2.out.I _ (an _)⟩)
 have bm:St w.heap.size h w ac w3:=⟨aL.below,aJ.out.I,Hp.le_trans aL.le aJ.out.le,fun b a3=>(aJ.out.aI b (by have:=ax.out;simp;omega)).trans (aL.aI b a3),aL.base⟩
 have cd:=aa ((((bm.setCell (p:=⟨w.heap.size,0,none⟩) (an _) G.out (af ae 1)).setCell (p:=⟨w.heap.size,1,none⟩) (an _) G.out (ah A.text)).setCell (p:=⟨w.heap.size,2,none⟩) (an _) G.out (ag (some ⟨b2,0,none⟩) 3 3)).setCell (p:=⟨w.heap.size,3,none⟩) (an _) G.out (ag (some ⟨O,0,none⟩) 1 M));clear aL bm;have ci:w.heap.size≤b2:=by have:=ax.out;simp at bB;omega
 have bL:ac.le (ac.add b2 #[ah E.lead,ah A.lead,ah ⟨#[]⟩]):=Hp.eG _ a1.out;have cf:=AP (name:=A.text) (AO ac b2 #[ah E.lead,ah A.lead,ah ⟨#[]⟩]) (bp.out.mono bL) (a9.out.mono fun _ _ r=>r.mono bL);have bX:=aa (bY.out.add (bd.out.qj (by simp)));generalize(((w3.setCell ⟨w.heap.size,0,none⟩ (af ae 1)).setCell ⟨w.heap.size,1,none⟩ (ah A.text)).setCell ⟨w.heap.size,2,none⟩ (ag (some ⟨b2,0,none⟩) 3 3)).setCell ⟨w.heap.size,3,none⟩ (ag (some ⟨O,0,none⟩) 1 M)=dm at*;refine(DI _ _ _ bX.out _ _ cf (an _) (by simp[Tree.depth,hC])).mono ?_;rintro aB dn ⟨rfl,a4⟩;rw[show(Tree.node 1 A.text [E.lead,A.lead,⟨#[]⟩] [.node 2 n.text [d.lead,n.lead,l.lead,r.lead,c.lead,e.lead] [.node 5 ⟨#[]⟩ [aG.lead] [],.node 21 ad.text [ad.lead] [.node 10 Y.text [Y.lead] [],.node 10 ab.text [ab.lead] []]]]).depth=4 by simp[Tree.depth,hC]];have ce:=aa (cd.out.same a4);have aQ:=aa (bd.out.below a4);have ak:=aa (cg.out.below a4);obtain⟨v0,di,dj,dk⟩:=ak.out.jU;have cS:=ak.out.fz 0;have cV:=ak.out.fz 1;have cX:=ak.out.fz 2;have cY:=ak.out.fz 3;have cA:=aQ.out.cl 2;have cZ:=aQ.out.fz 2;have dB:=ak.out.lt;have dw:=aQ.out.lt;have db:=nx.symm;simp only[bw,bc,bQ]at cA;go_wp2_with fail;have aM:=((((ce.out.setCell (p:=⟨b2,2,none⟩) ci a1.out (ah am)).setCell (p:=⟨w.heap.size,0,none⟩) (an _) G.out (af ae 1)).setCell (p:=⟨w.heap.size,1,none⟩) (an _) G.out (ah A.text)).setCell (p:=⟨w.heap.size,2,none⟩) (an _) G.out (ag (some ⟨b2,0,none⟩) 3 3)).setCell (p:=⟨w.heap.size,3,none⟩) (an _) G.out (ag (some ⟨O,0,none⟩) 1 M);have cc:Has _ b2 #[ah E.lead,ah A.lead,ah am]:=(aQ.out.hU 2 (by simp) (ah am)).o4 nx (af ae 1) (ah A.text) (ag (some ⟨b2,0,none⟩) 3 3) (ag (some ⟨O,0,none⟩) 1 M);obtain⟨ch,c1,c2,c3⟩:=((ak.out.ne (fun e=>nx e.symm) 2 (ah am)).mW (af ae 1) (ah A.text) (ag (some ⟨b2,0,none⟩) 3 3) (ag (some ⟨O,0,none⟩) 1 M)).jU;have a5:ac.le (ac.add b2 #[ah E.lead,ah A.lead,ah am]):=Hp.eG _ a1.out;refine aF (v:= .tuple #[aq #[af ae 1,ah A.text,ag (some ⟨b2,0,none⟩) 3 3,ag (some ⟨O,0,none⟩) 1 M],af ae 0,af ae 0]) (by simp[results,Tryz.results21,go_sem,ch,c1,c2,c3]) rfl ⟨_,rfl,_,⟨aM.below,aM.I.add (cc.qj (by simp)),Hp.le_trans aM.le a5,fun b a3=> ?_,aM.base⟩,AP (AO _ _ _) (bp.out.mono a5) (a9.out.mono fun _ _ r=>r.mono a5)⟩;unfold Hp.add;rw[if_neg (by omega)];exact aM.aI b a3
def qT:Nat→TypeId
 |0=>40|_=>43
def qW:Nat→Nat
 |0=>1|_=>2
theorem r2(k:Nat):qT (1+k)=43∧qW (1+k)=2:=by rw[sK];exact⟨rfl,rfl⟩
def nc:List Value:=[af ae (-1),af ae 0]
structure iD(h:Hp)(w:World)(xb so sn:Nat)(budget:Int)(F:Nat→bY)(nt:List Tree)(j:Nat):Prop where
 I:ao h w
 rows:jV w h (xb+1) qT qW F
 box:Has w xb #[az (some ⟨so,0,none⟩),az (some ⟨sn,0,none⟩),af ae budget,(F 0).v,af ae 0,af ae 0]
 no:h xb=none
 n0:(F 0).n=j∧(F 0).xs=(aw j).map fun i=>(F (1+i)).v
 n1:∀i,i<j→(F (1+i)).n=(nt.getD i default).size∧(F (1+i)).xs=(aA (nt.getD i default).size nc).flatten
 n2:∀i,j≤i→F (1+i)=mY
section
variable {h:Hp} {w w1:World} {xb so sn:Nat} {budget:Int} {F:Nat→bY} {nt:List Tree} {j:Nat} {S:Nat→Prop}
theorem iD.tu(g:iD h w xb so sn budget F nt j)(t:Tu S w w1)(A:∀b,S b→b≠xb∧h b=none∧∀k,(F k).v.ownBlock≠some b):iD h w1 xb so sn budget F nt j:=
 ⟨t.I g.I fun b E=>(A b E).2.1,g.rows.tu t fun k b E e=>(A b e).2.2 k E,g.box.tu t fun e=>(A xb e).1 rfl,g.no,g.n0,g.n1,g.n2⟩
theorem iD.below(g:iD h w xb so sn budget F nt j)(b:Below w.heap.size w w1):iD h w1 xb so sn budget F nt j:=g.tu ((Tu.refl (fun _=>False) w).below b) fun _ e=>e.elim
theorem iD.hJ(g:iD h w xb so sn budget F nt j)(k:Nat){b:Nat}(A:(F k).v.ownBlock=some b):xb<b∧b<w.heap.size:=by have:=(g.rows.own k).lt b A;omega
theorem iD.step{rb r0:bY}{w2:World}(g:iD h w xb so sn budget F nt j)(b1:Below w.heap.size w w1)(aL:Ow w1 h (xb+1) 43 2 rb.v rb.n rb.xs)(am:∃b,rb.v.ownBlock=some b∧w.heap.size≤b)(A:rb.n=(nt.getD j default).size∧rb.xs=(aA (nt.getD j default).size nc).flatten)(t:Tu (fun b=>(F 0).v.ownBlock=some b) w1 w2)(aJ:Ow w2 h (xb+1) 40 1 r0.v r0.n r0.xs)(bk:r0.v.ownBlock=(F 0).v.ownBlock∨∃b,r0.v.ownBlock=some b∧w1.heap.size≤b)(Y:r0.n=j+1∧r0.xs=(F 0).xs++[rb.v]):iD h (w2.setCell ⟨xb,3,none⟩ r0.v) xb so sn budget (ba (ba F (1+j) rb) 0 r0) nt (j+1)∧Below xb w (w2.setCell ⟨xb,3,none⟩ r0.v):=by
 have g1:=g.below b1;have aj:Tu (fun _=>False) w w1:=(Tu.refl _ _).below b1;have aM:Ow w1 h (xb+1) (qT (1+j)) (qW (1+j)) rb.v rb.n rb.xs:=by rw[(r2 j).1,(r2 j).2];exact aL
 have ab:=g.rows.step (1+j) rb aj (fun _ _ _ _ e=>e) aM (.inr am);have M:ba F (1+j) rb 0=F 0:=cQ _ _ (by omega);have ac:=ab.step 0 r0 (t.mono (S':=fun b=>(ba F (1+j) rb 0).v.ownBlock=some b) fun b e=>by rw[M];exact e) (fun k b ao A ax=>ab.apart k 0 ao b A ax) aJ (by rw[M];exact bk);have aB:=g1.box.tu t fun e=>by have:=g.hJ 0 e;omega
 have aG:∀k b,(ba (ba F (1+j) rb) 0 r0 k).v.ownBlock=some b→xb<b:=fun k b A=>by have:=(ac.own k).lt b A;omega
 have ad:=(Tu.refl (fun b=>b=xb) w2).set (p:=⟨xb,3,none⟩) (.inl rfl) r0.v;have ak:Tu (fun b=>b=xb∨(F 0).v.ownBlock=some b) w (w2.setCell ⟨xb,3,none⟩ r0.v):=((aj.mono fun _ e=>e.elim).step t fun k e=> .inl (.inr e)).step ad fun k e=> .inl (.inl e);have O:ba (ba F (1+j) rb) 0 r0 (1+j)=rb:=by rw[cQ _ _ (by omega),mZ]
 have G:∀i,i≠j→ba (ba F (1+j) rb) 0 r0 (1+i)=F (1+i):=fun i E=>by rw[cQ _ _ (by omega),cQ _ _ (by omega)]
 refine⟨⟨ak.I g.I fun b A=> ?_,ac.tu ad fun k b A e=>by have:=aG k b A;omega,aB.fg 3 (by simp) r0.v,g.no,⟨Y.1,?_⟩,fun i E=> ?_,fun i E=> ?_⟩,ak.jR (by have:=g.box.lt;omega) fun k e=> ?_⟩
 ·rcases A with rfl|A;·exact g.no
  ·exact(g.rows.own 0).free b A
 ·show r0.xs=_;rw[Y.2,g.n0.2,List.range_succ,List.map_append,cR,List.map_nil,O];congr 1;refine List.map_congr_left fun i E=> ?_;rw[G i (by have:=List.mem_range.1 E;omega)]
 ·by_cases e:i=j;·subst e;rw[O];exact A
  ·rw[G i e];exact g.n1 i (by omega)
 ·rw[G i (by omega)];exact g.n2 i (by omega)
 ·rcases e with rfl|e;·exact an _
  ·have:=g.hJ 0 e;omega
end
theorem zW{a b:Value}{N:Nat}(A:∀g,a.ownBlock=some g→g<N)(E:∀g,b.ownBlock=some g→N≤g):cj a b∧cj b a:=
 ⟨fun g h1 h2=>by have:=A g h1;have:=E g h2;omega,fun g h1 h2=>by have:=E g h1;have:=A g h2;omega⟩
def pb(om oa nm na:Value)(ro rn rr:Nat→Value):eL→Value
 | .om=>om| .nm=>nm| .oa=>oa| .na=>na| .ot i=>ro i| .nt i=>rn i| .rs i=>rr i
theorem Hi(n:Nat):(aA n ((-1:Int),(0:Int))).flatMap bV=(aA n nc).flatten:=by
 induction n with
 |zero=>rfl
 |succ n A=>rw[pu,pu,fH,List.flatten_cons,A];rfl
section
variable {h1 h2:Hp} {w0 w1 w2 w3:World} {xb so sn:Nat} {budget:Int} {F:Nat→bY} {ot nt:List Tree} {B:Nat}
theorem Hj{M O:Nat→Value}{mv av kv eo eN dR:Value}{ms a4:List Nat}{h2:Hp}{_w2:World}(q1:cC h2 so ot ms mv av kv)(ba:cC h2 sn nt a4 eo eN dR)(g:iD h2 w3 xb so sn budget F nt nt.length)(k1:hV h2 kv ((aw ot.length).map M))(k2:hV h2 dR ((aw nt.length).map O))(E:Nat)(aT:B≤E)(bL:E≤xb)(bE:Ow w3 h2 B 3 1 mv ot.length (aV (aA ot.length (-1))))(bG:Ow w3 h2 B 3 1 av (aj 0 ot).length (aV (aA (aj 0 ot).length (-1))))(bI:∀i,Ow w3 h2 B 4 1 (M i) ((ot.map fun t=>aA t.size false).getD i []).length (dZ ((ot.map fun t=>aA t.size false).getD i [])))(bd:cj mv av)(bg:cj av mv)(aM:∀i,cj mv (M i)∧cj (M i) mv∧cj av (M i)∧cj (M i) av)(bm:∀i j,i≠j→cj (M i) (M j))(Y:∀g,mv.ownBlock=some g→g<E)(l2:∀g,av.ownBlock=some g→g<E)(ab:∀i g,(M i).ownBlock=some g→g<E)(a5:Ow w3 h2 E 3 1 eo nt.length (aV (aA nt.length (-1))))(a8:Ow w3 h2 E 3 1 eN (aj 0 nt).length (aV (aA (aj 0 nt).length (-1))))(a9:∀i,Ow w3 h2 E 4 1 (O i) ((nt.map fun t=>aA t.size false).getD i []).length (dZ ((nt.map fun t=>aA t.size false).getD i [])))(b1:cj eo eN)(b2:cj eN eo)(b3:∀i,cj eo (O i)∧cj (O i) eo∧cj eN (O i)∧cj (O i) eN)(bp:∀i j,i≠j→cj (O i) (O j))(aO:∀g,eo.ownBlock=some g→g<xb)(aP:∀g,eN.ownBlock=some g→g<xb)(aQ:∀i g,(O i).ownBlock=some g→g<xb)(bv:nt.length≤140737488355328):∃h' V,h2.le h'∧(∀b,b≤xb→h' b=h2 b)∧cC h' so ot ms (V .om) (V .oa) kv∧cC h' sn nt a4 (V .nm) (V .na) dR∧bH h' w3 B xb so sn budget V (cN ot nt):=by
 obtain⟨h',bA,ao,a3,bB⟩:=(g.rows.own 0).giveUp g.I (by rw[g.n0.1];exact bv);have a1:∀b,b≤xb→h' b=h2 b:=fun b aN=>a3 b fun q aX e=>by have:=g.hJ 0 aX;omega
 have bJ:∀k,k≠0→Ow w3 h' (xb+1) (qT k) (qW k) (F k).v (F k).n (F k).xs:=fun k ax=>(g.rows.own k).U (fun _ _=>rfl) fun b aN=>a3 b fun q aX e=>by subst e;exact g.rows.apart k 0 ax b aN aX
 have low:∀{e:TypeId} {k n:Nat} {v:Value} {xs:List Value} {a2:Nat},Ow w3 h2 a2 e k v n xs→a2≥B→(∀g,v.ownBlock=some g→g≤xb)→Ow w3 h' B e k v n xs:=fun o bq ac=>(o.U (fun _ _=>rfl) fun b aN=>a1 b (ac b aN)).base bq;have ad:∀(v:Value),(∀g,v.ownBlock=some g→g<E)→∀g,v.ownBlock=some g→g≤xb:=fun v ac g e=>by have:=ac g e;omega
 have ak:∀(v:Value),(∀g,v.ownBlock=some g→g<xb)→∀g,v.ownBlock=some g→g≤xb:=fun v ac g e=>by have:=ac g e;omega
 have r0:∀i am,(F (1+i)).v.ownBlock=some am→xb+1≤am:=fun i am e=>by have:=g.hJ (1+i) e;omega
 have aY:∀{v:Value},(∃(e:TypeId) (k n:Nat) (xs:List Value),Ow w3 h2 E e k v n xs)→∀am,v.ownBlock=some am→E≤am:=fun⟨_,_,_,_,o⟩ am e=>(o.lt am e).1;have A:∀(v u:Value),(∀g,v.ownBlock=some g→g<E)→(∀g,u.ownBlock=some g→E≤g)→cj v u∧cj u v:=fun v u ac bz=>zW ac bz;have G:∀(v:Value) (i:Nat),(∀g,v.ownBlock=some g→g≤xb)→cj v (F (1+i)).v∧cj (F (1+i)).v v:=fun v i ac=>zW (N:=xb+1) (fun g e=>by have:=ac g e;omega) (r0 i);have aJ:=aY ⟨_,_,_,_,a5⟩;have aG:=aY ⟨_,_,_,_,a8⟩;have aB:=fun i=>aY ⟨_,_,_,_,a9 i⟩;refine⟨h',pb mv av eo eN M O fun i=>(F (1+i)).v,ao,a1,q1.mono ao,ba.mono ao,bA,⟨fun k=> ?_,fun k bC ax=> ?_⟩,?_,?_,⟨(F 0).v,g.box,?_⟩,by rw[a1 xb (an _)];exact g.no,fun k=> ?_⟩
 ·cases k with
  |om=>exact(by have:=low bE (an _) (ad _ Y);simpa[dD,dE,cf,ch,pb,cN]using this)
  |oa=>exact(by have:=low bG (an _) (ad _ l2);simpa[dD,dE,cf,ch,pb,cN]using this)
  |nm=>exact(by have:=low a5 aT (ak _ aO);simpa[dD,dE,cf,ch,pb,cN]using this)
  |na=>exact(by have:=low a8 aT (ak _ aP);simpa[dD,dE,cf,ch,pb,cN]using this)
  |ot i=>exact low (bI i) (an _) (ad _ (ab i))
  |nt i=>exact low (a9 i) aT (ak _ (aQ i))
  |rs i=>
   have:=(bJ (1+i) (by omega)).base (B':=B) (by omega);rw[(r2 i).1,(r2 i).2]at this;show Ow w3 h' B 43 2 (F (1+i)).v ((nt.map fun t=>aA t.size ((-1:Int),(0:Int))).getD i []).length (((nt.map fun t=>aA t.size ((-1:Int),(0:Int))).getD i []).flatMap bV);by_cases aL:i<nt.length
   ·have e:(nt.map fun t=>aA t.size ((-1:Int),(0:Int))).getD i []=aA (nt.getD i default).size (-1,0):=by rw[getD_at (by simpa using aL),getD_at aL,eU]
    rw[e,List.length_replicate,Hi];rw[(g.n1 i aL).1,(g.n1 i aL).2]at this;exact this
   ·have e:(nt.map fun t=>aA t.size ((-1:Int),(0:Int))).getD i []=[]:=by rw[List.getD_eq_getElem?_getD,gM (by simpa using aL)];rfl
    rw[e];rw[g.n2 i (by omega)]at this⊢;exact this
 ·cases k<;>cases bC<;>first
   |exact absurd rfl ax
   |exact bd
   |exact bg
   |exact b1
   |exact b2
   |exact(aM _).1
   |exact(aM _).2.1
   |exact(aM _).2.2.1
   |exact(aM _).2.2.2
   |exact(b3 _).1
   |exact(b3 _).2.1
   |exact(b3 _).2.2.1
   |exact(b3 _).2.2.2
   |exact bm _ _ fun e=>ax (by rw[e])
   |exact bp _ _ fun e=>ax (by rw[e])
   |exact g.rows.apart _ _ fun e=>ax (by rw[Nat.add_left_cancel e])
   |exact(A _ _ Y aJ).1
   |exact(A _ _ Y aJ).2
   |exact(A _ _ Y aG).1
   |exact(A _ _ Y aG).2
   |exact(A _ _ Y (aB _)).1
   |exact(A _ _ Y (aB _)).2
   |exact(A _ _ l2 aJ).1
   |exact(A _ _ l2 aJ).2
   |exact(A _ _ l2 aG).1
   |exact(A _ _ l2 aG).2
   |exact(A _ _ l2 (aB _)).1
   |exact(A _ _ l2 (aB _)).2
   |exact(A _ _ (ab _) aJ).1
   |exact(A _ _ (ab _) aJ).2
   |exact(A _ _ (ab _) aG).1
   |exact(A _ _ (ab _) aG).2
   |exact(A _ _ (ab _) (aB _)).1
   |exact(A _ _ (ab _) (aB _)).2
   |exact(G _ _ (ad _ Y)).1
   |exact(G _ _ (ad _ Y)).2
   |exact(G _ _ (ad _ l2)).1
   |exact(G _ _ (ad _ l2)).2
   |exact(G _ _ (ad _ (ab _))).1
   |exact(G _ _ (ad _ (ab _))).2
   |exact(G _ _ (ak _ aO)).1
   |exact(G _ _ (ak _ aO)).2
   |exact(G _ _ (ak _ aP)).1
   |exact(G _ _ (ak _ aP)).2
   |exact(G _ _ (ak _ (aQ _))).1
   |exact(G _ _ (ak _ (aQ _))).2
 ·obtain⟨tv,aZ,aS,e,-⟩:=(q1.mono ao).box;refine⟨tv,aZ,aS,kv,e,?_⟩;have:(cN ot nt).ot.length=ot.length:=by simp[cN]
  rw[this];exact k1.mono ao
 ·obtain⟨tv,aZ,aS,e,-⟩:=(ba.mono ao).box;refine⟨tv,aZ,aS,dR,e,?_⟩;have:(cN ot nt).nt.length=nt.length:=by simp[cN]
  rw[this];exact k2.mono ao
 ·have:(cN ot nt).rs.length=nt.length:=by simp[cN]
  rw[this];show Sl h' _ _ 1 _;rw[←show(F 0).xs=(aw nt.length).map fun i=>(pb mv av eo eN M O (fun i=>(F (1+i)).v)) (.rs i)from g.n0.2];have e:(F 0).xs.length=(F 0).n:=by rw[g.n0.1,g.n0.2,dL,List.length_range]
  rw[e];exact bB
 ·cases k with
  |om=>exact fun e=>by have:=Y _ e;omega
  |oa=>exact fun e=>by have:=l2 _ e;omega
  |nm=>exact fun e=>by have:=aO _ e;omega
  |na=>exact fun e=>by have:=aP _ e;omega
  |ot i=>exact fun e=>by have:=ab i _ e;omega
  |nt i=>exact fun e=>by have:=aQ i _ e;omega
  |rs i=>exact fun e=>by have:=r0 i _ e;omega
end
theorem E6{M:TypeId}(G:ai.underlying M=some (.int .i64)):jm M (fun n:Int=>af ae n) where
 check b w p:=by unfold Instr.checkKey;simp[gl G]
 bits p:=by simp[Instr.sameBits]
 find w p A l h:=by
  unfold Instr.findKey;simp only[Sem.run_bind,gl G,Result.andThen_ok]
  have:∀(A:List MapEntry) (l:List (Int×Value)) (i:Nat),A.map (fun e=>(e.key,e.val))=l.map (fun q=>(af ae q.1,q.2))→
    ml (.int ae) (af ae p) A i=some ((bm l p).bind fun k=>(l[k]?).map fun q=>(i+k,q.2)):=by
   intro A;induction A with
   |nil=>
    intro l i h;cases l with
    |nil=>rfl
    |cons a l=>simp at h
   |cons e A ab=>
    intro l i h;cases l with
    |nil=>simp at h
    |cons a l=>
     simp only[cR,ii,jg]at h;obtain⟨⟨h1,h2⟩,O⟩:=h;unfold ml;rw[h1];unfold bm;rw[List.findIdx?_cons];by_cases E:a.1=p;·simp[qy,E,h2]
     ·have Y:(p==a.1)=false:=by rw[beq_eq_false_iff_ne];exact fun e=>E e.symm
      simp only[qy,Y,E,decide_false,Bool.false_eq_true,if_false,if_true];rw[ab l (i+1) O];unfold bm;cases l.findIdx? (fun q=>decide (q.1=p))with
      |none=>rfl
      |some k=>simp[bP,sK 1 k]
  rw[this A l 0 h];simp
theorem mP:jm 3 (fun n:Int=>af ae n):=E6 Tryz.underlying3
def e6{α:Type}(enc:α→List Value)(c:Nat)(h:Hp)(v:Value)(x:List α):Prop:=Sl h v x.length c (x.flatMap enc)∧∃a cap,v=ag a x.length cap∧x.length≤cap
theorem e6.mono{α:Type}{enc:α→List Value}{c:Nat}{h h':Hp}(A:h.le h'){v:Value}{x:List α}(s:e6 enc c h v x):e6 enc c h' v x:=⟨s.1.mono A,s.2⟩
theorem Ow.uY{α:Type}{enc:α→List Value}{c:Nat}{w:World}{h:Hp}{B:Nat}{e:TypeId}{v:Value}{x:List α}(o:Ow w h B e c v x.length (x.flatMap enc))(G:x.length≤140737488355328):e6 enc c (h.fr B w) v x:=by
 refine⟨o.sl G,?_⟩;rcases o.row with⟨h1,⟨rfl,A⟩|⟨Y,M,O,rfl,ab,aj,E,ac,ad,ak⟩⟩;·exact⟨_,_,by rw[A],by omega⟩
 ·exact⟨_,_,rfl,E⟩
theorem e6.nil{α:Type}{enc:α→List Value}{c:Nat}(h:Hp)(a:Option Addr)(A:Nat):e6 enc c h (ag a 0 A) ([]:List α):=⟨Sl.nil _ _ _ _,_,_,rfl,Nat.zero_le _⟩
structure hZ{K α:Type}[DecidableEq K](enc:K→Value)(encA:α→List Value)(c:Nat)(h:Hp)(w:World)(r:Nat)(rest:List (K×List α))(l:List (K×Value)):Prop where
 map:aS enc w r l
 keys:l.map (·.1)=rest.map (·.1)
 sl:∀i (hi:i<l.length) (hr:i<rest.length),e6 encA c h (l[i]).2 (rest[i]).2
section
variable {K α:Type} [DecidableEq K] {enc:K→Value} {encA:α→List Value} {c:Nat} {e:TypeId} {w w1:World} {h:Hp} {r B:Nat} {rest:List (K×List α)} {l:List (K×Value)}
theorem cY.G0(g:cY enc e c encA w h B r rest l){m:Nat}(G:∀q∈rest,q.2.length≤m)(M:m≤140737488355328):hZ enc encA c (h.fr B w) w r rest l:=
 ⟨g.map,g.keys,fun i E A=>(g.own i E A).uY (Nat.le_trans (G _ (aK A)) M)⟩
theorem hZ.len(g:hZ enc encA c h w r rest l):l.length=rest.length:=by have:=congrArg List.length g.keys;simpa using this
theorem hZ.row(g:hZ enc encA c h w r rest l)(p:K):e6 encA c h ((aT l p).getD (ag none 0 0)) ((aT rest p).getD []):=by
 unfold aT;rw[oN g.keys p];cases hp:bm rest p with
 |none=>exact e6.nil _ _ _
 |some k=>have A:=fv hp;have E:=g.len;simp only[j2,aE A,aE (show k<l.length by omega),fa,fs];exact g.sl k (by omega) A
theorem hZ.U(g:hZ enc encA c h w r rest l)(A:w1.heap[r]? =w.heap[r]?):hZ enc encA c h w1 r rest l:=⟨g.map.U A,g.keys,g.sl⟩
theorem hZ.put(g:hZ enc encA c h w r rest l)(p:K)(x:List α)(v:Value)(M:aS enc w1 r (aY l p v))(aj:e6 encA c h v x):hZ enc encA c h w1 r (aY rest p x) (aY l p v):=by
 have ak:=g.len;have ac:=oN g.keys p;cases hp:bm l p with
 |none=>
  have Y:bm rest p=none:=by rw[←ac];exact hp
  have A:aY l p v=l++[(p,v)]:=by unfold aY;rw[hp]
  have O:aY rest p x=rest++[(p,x)]:=by unfold aY;rw[Y]
  rw[A]at M;rw[A,O];refine⟨M,by simp[g.keys],fun i G ad=> ?_⟩;simp only[cI,bF,cL]at G;by_cases ab:i<l.length;·rw[mf ab,mf (by omega)];exact g.sl i ab (by omega)
  ·obtain rfl:i=l.length:=by omega
   have:(rest++[(p,x)])[l.length]'ad=(p,x):=by rw[List.getElem_append_right (by omega)];simp[ak]
   rw[this];simpa using aj
 |some k=>
  have Y:bm rest p=some k:=by rw[←ac];exact hp
  have A:aY l p v=l.set k (p,v):=by unfold aY;rw[hp]
  have O:aY rest p x=rest.set k (p,x):=by unfold aY;rw[Y]
  rw[A]at M;rw[A,O];refine⟨M,by rw[hL,hL,g.keys],fun i G ad=> ?_⟩;simp only[List.length_set]at G;rw[mg,mg];by_cases E:k=i;·rw[if_pos E,if_pos E];exact aj
  ·rw[if_neg E,if_neg E];exact g.sl i G (by omega)
theorem e6.cut{a:Option Addr}{n Y:Nat}{y:α}{x:List α}(aM:∀z:α,(encA z).length=c)(s:e6 encA c h (ag a n Y) (y::x)){w:World}(aO:ao h w)(_h0:0<c):n=x.length+1∧x.length+1≤Y∧∃b A,a=some ⟨b,A,none⟩∧b<w.heap.size∧h b≠none∧(∀k v,(encA y)[k]? =some v→w.cell? ⟨b,A+k,none⟩=some v)∧∀a',(x=[]∨a'=some ⟨b,A+c,none⟩)→e6 encA c h (ag a' x.length (Y-1)) x:=by
 obtain⟨ac,aS,c1,ad,ak⟩:=s;simp only[bU,bF]at ad;obtain⟨rfl,rfl,rfl⟩:=ad;simp only[bF]at ac ak;have ax:=ac;obtain⟨b,A,rfl,aJ,aN⟩:=ac.cells aO (by omega)
 have aL:h b≠none:=by
  obtain⟨aB,c2,G,h1,h2,M⟩:=ax;rcases M with M|⟨b',aQ,cs,E,ab,aj⟩;·omega
  ·simp only[bU]at G;rw[←G.1]at E;simp only[aC,cx,and_true]at E;rw[E.1,ab];simp
 refine⟨rfl,ak,b,A,rfl,aJ,aL,fun k v O=>aN k v ?_,fun a' aG=> ?_⟩
 ·have aP:k<(encA y).length:=by
   rcases b7 k (encA y).length with q|q;·exact q
   ·rw[gM q]at O;cases O
  rw[fH,List.getElem?_append_left aP];exact O
 ·rcases aG with rfl|rfl;·exact e6.nil _ _ _
  ·refine⟨?_,_,_,rfl,by omega⟩;obtain⟨aB,c2,G,h1,h2,M⟩:=ax;rcases M with M|⟨b',aQ,cs,E,ab,aj⟩;·omega
   ·simp only[bU]at G;rw[←G.1]at E;simp only[aC,cx,and_true]at E;obtain⟨rfl,rfl⟩:=E;have am:=aM y;refine⟨_,_,rfl,by omega,?_,.inr ⟨b,A+c,cs,rfl,ab,fun k O=> ?_⟩⟩;·have:=h2;rw[fH,cI,am,gN]at this;omega
    ·have:=aj (k+c) (by rw[gN];omega);rw[show A+c+k=A+(k+c) by omega,this,fH,ih (by omega),am,Nat.add_sub_cancel]
end
structure pa(ts:List Tree):Prop where
 short:∀d∈aj 0 ts,d.t.short
 sum:iX (aj 0 ts)≤200000
 num:∀d∈aj 0 ts,d.number+d.t.size≤200000
theorem zO:∀(l:List bq) (j:Nat) (hj:j<l.length),(l.flatMap cX)[j*4]? =some (af ae l[j].J)∧(l.flatMap cX)[j*4+1]? =some (af ae l[j].number)∧(l.flatMap cX)[j*4+2]? =some (af ae l[j].size)∧(l.flatMap cX)[j*4+3]? =some (af ae l[j].a6)
 |[],j,hj=>by simp at hj
 |x::l,0,_=>by simp[cX]
 |x::l,j+1,hj=>by
  have h:=zO l j (by simpa using hj);have e:∀k,((x::l).flatMap cX)[(j+1)*4+k]? =(l.flatMap cX)[j*4+k]? :=fun k=>by rw[fH,ih (by simp[cX];omega)];congr 1;simp only[cX,bF,cL];omega
  refine⟨?_,?_,?_,?_⟩;·rw[show(j+1)*4=(j+1)*4+0 by omega,e 0];exact h.1
  ·rw[e 1];exact h.2.1
  ·rw[e 2];exact h.2.2.1
  ·rw[e 3];exact h.2.2.2
theorem e6.sub{h:Hp}{w:World}{a:Option Addr}{n M:Nat}{L:List bq}(s:e6 cX 4 h (ag a n M) L)(Y:ao h w)(j:Nat)(hj:j<L.length):∃b A,a=some ⟨b,A,none⟩∧b<w.heap.size∧w.cell? ⟨b,A+j*4,none⟩=some (af ae L[j].J)∧w.cell? ⟨b,A+j*4+1,none⟩=some (af ae L[j].number)∧w.cell? ⟨b,A+j*4+2,none⟩=some (af ae L[j].size)∧w.cell? ⟨b,A+j*4+3,none⟩=some (af ae L[j].a6):=by
 obtain⟨ab,ac,c1,G,ad⟩:=s;simp only[bU]at G;obtain⟨rfl,rfl,rfl⟩:=G;obtain⟨b,A,rfl,O,E⟩:=ab.cells Y (by omega);have h:=zO L j hj;refine⟨b,A,rfl,O,E _ _ h.1,?_,?_,?_⟩;·rw[bP];exact E _ _ h.2.1
 ·rw[bP];exact E _ _ h.2.2.1
 ·rw[bP];exact E _ _ h.2.2.2
theorem Hp.G1{h h':Hp}(G:h.le h')(B:Nat)(w:World):(h.fr B w).le (h'.fr B w):=fun b c A=>by
 unfold Hp.fr at A⊢;split at A;·rename_i E;rw[if_pos E];exact G b c A
 ·rename_i E;rw[if_neg E];exact A
theorem hZ.mono{K α:Type}[DecidableEq K]{enc:K→Value}{encA:α→List Value}{c:Nat}{h h':Hp}{w:World}{r:Nat}{rest:List (K×List α)}{l:List (K×Value)}(g:hZ enc encA c h w r rest l)(E:h.le h'):hZ enc encA c h' w r rest l:=
 ⟨g.map,g.keys,fun i A G=>(g.sl i A G).mono E⟩
def kx(L:List bq)(g:List (Int×List bq)):Prop:=∀k,∀o∈(aT g k).getD [],o∈L∧(o.a6:Int)=k
theorem kx.set{L:List bq}{g:List (Int×List bq)}(h:kx L g)(c:Int)(x:List bq)(E:∀o∈x,o∈L∧(o.a6:Int)=c):kx L (aY g c x):=fun k o A=>by
 rw[o5]at A;split at A;·rename_i e;subst e;exact E o A
 ·exact h k o A
theorem G2{L:List bq}{g:List (Int×List bq)}(h:kx L g){t:bq}(E:t∈L):kx L (gH g t):=by
 unfold gH;split
 ·refine h.set _ _ fun o A=> ?_;rcases List.mem_append.1 A with A|A;·exact h _ o A
  ·obtain rfl:=List.mem_singleton.1 A;exact⟨E,rfl⟩
 ·exact h
theorem G3(L:List bq):kx L (L.foldl gH []):=
 hX (P:=fun g=>kx L g) L [] (fun k o A=>by cases A) fun g t E h=>G2 h E
theorem G4{g:List (Int×List bq)}{t:bq}{m:Nat}(h:∀q∈g,q.2.length≤m):∀q∈gH g t,q.2.length≤m+1:=by
 unfold gH;split
 ·intro q A;rcases oM A with A|rfl;·have:=h q A;omega
  ·have:((aT g (t.a6:Int)).getD []).length≤m:=by
    unfold aT;cases hp:bm g (t.a6:Int)with
    |none=>simp
    |some k=>simp only[j2,aE (fv hp),fa,fs];exact h _ (aK _)
   simp;omega
 ·exact fun q A=>by have:=h q A;omega
theorem zP(p:bq→Bool)(L:List bq)(k:Nat)(E:k≤L.length)(h:∀i (M:i<k),p (L[i]'(by omega))=true)(A:k=L.length∨∃E:k<L.length,p L[k]=false):L.dropWhile p=L.drop k:=by
 induction L generalizing k with
 |nil=>simp at E;subst E;rfl
 |cons a L O=>
  cases k with
  |zero=>
   rcases A with A|⟨_,A⟩;·simp at A
   ·rw[dJ]at A;rw[KG,A];rfl
  |succ k=>
   have G:=h 0 (by omega);rw[dJ]at G;rw[KG,G];simp only[if_true,List.drop_succ_cons];refine O k (by simpa using E) (fun i M=> ?_) ?_;·have:=h (i+1) (by omega);simpa using this
   ·rcases A with A|⟨h1,A⟩;·exact .inl (by simpa using A)
    ·exact .inr ⟨by simpa using h1,by simpa using A⟩
section
variable {h:Hp} {w:World} {B xb so sn:Nat} {budget:Int} {V:eL→Value} {s:bp} {ot nt:List Tree}
theorem G5(q:bH h w B xb so sn budget V s)(sh:cw s ot nt)(x:bq)(A:x.J<nt.length)(G:0<x.size)(ac:x.number+x.size≤(nt.getD x.J default).size)(M:∀t∈nt,t.size≤1000000):Calls ai 66 #[az (some ⟨sn,0,none⟩),o1 x] w fun e w'=>e= .returned (.bool (fX s.nt x))∧Below w.heap.size w w':=by
 obtain⟨tv,ad,Y,kv,E,O⟩:=q.new;have ab:=sh.gY x.J A;have hz:(nt.getD x.J default).size≤1000000:=by rw[getD_at A];exact M _ (aK A)
 have o:=q.rows.own (.nt x.J);simp only[cf,ch,dD,dE]at o;exact yA q.I E s.nt (fun i=>V (.nt i)) O x o (by rw[sh.nl];exact A) (by omega) G (by omega)
theorem G6(q:bH h w B xb so sn budget V s)(sh:cw s ot nt)(x:bq)(A:x.J<ot.length)(G:0<x.size)(ac:x.number+x.size≤(ot.getD x.J default).size)(M:∀t∈ot,t.size≤1000000):Calls ai 66 #[az (some ⟨so,0,none⟩),o1 x] w fun e w'=>e= .returned (.bool (fX s.ot x))∧Below w.heap.size w w':=by
 obtain⟨tv,ad,Y,kv,E,O⟩:=q.aI;have ab:=sh.mR x.J A;have hz:(ot.getD x.J default).size≤1000000:=by rw[getD_at A];exact M _ (aK A)
 have o:=q.rows.own (.ot x.J);simp only[cf,ch,dD,dE]at o;exact yA q.I E s.ot (fun i=>V (.ot i)) O x o (by rw[sh.ol];exact A) (by omega) G (by omega)
end
theorem A9:∀m,eP m
 |0=>fun t A=>by have:=t.size_eq;omega
 |m+1=>fun t A E h B w v n xs p M tv O=>by
  have G:=A9 m;rcases Dm t.kind with k|k|k|k|k|k|k|k|k|k|k|k|k|k|k|k|k|k|k|k|k|k|k;·exact IU m G t A E k h B w v n xs p M tv O
  ·exact IV m G t A E k h B w v n xs p M tv O
  ·exact IW m G t A E k h B w v n xs p M tv O
  ·exact IX m G t A E k h B w v n xs p M tv O
  ·exact IY m G t A E k h B w v n xs p M tv O
  ·exact IZ m G t A E k h B w v n xs p M tv O
  ·exact I0 m G t A E k h B w v n xs p M tv O
  ·exact I1 m G t A E k h B w v n xs p M tv O
  ·exact Iv m G t A E k h B w v n xs p M tv O
  ·exact Iw m G t A E k h B w v n xs p M tv O
  ·exact Ix m G t A E k h B w v n xs p M tv O
  ·exact Iy m G t A E k h B w v n xs p M tv O
  ·exact Iz m G t A E k h B w v n xs p M tv O
  ·exact IA m G t A E k h B w v n xs p M tv O
  ·exact IB m G t A E k h B w v n xs p M tv O
  ·exact I2 m G t A E k h B w v n xs p M tv O
  ·exact I3 m G t A E k h B w v n xs p M tv O
  ·exact I4 m G t A E k h B w v n xs p M tv O
  ·exact I5 m G t A E k h B w v n xs p M tv O
  ·exact I6 m G t A E k h B w v n xs p M tv O
  ·exact I7 m G t A E k h B w v n xs p M tv O
  ·exact I8 m G t A E k h B w v n xs p M tv O
  ·have:=E.1.leads;unfold b9 at this;rw[if_neg (by omega),if_neg (by omega),if_neg (by omega),if_neg (by omega),if_neg (by omega),if_neg (by omega),if_neg (by omega),if_neg (by omega),if_neg (by omega),if_neg (by omega),if_neg (by omega)]at this;omega
def I9(h:Hp)(w:World)(e:Ending)(w':World):Prop:=∃v n xs,e= .returned v∧Ow w' h w.heap.size 199 2 v n xs∧PcV xs∧ao h w'∧Below w.heap.size w w'∧n≤4000000
theorem Ja(t:Tree)(hz:t.size≤100000)(O:RT t)(h:Hp)(w:World)(G:ao h w)(v:Value)(E:aP h v t):Calls ai 123 #[v] w (I9 h w):=by have Y:=aa G;have ac:=aa E;have ab:=aa O;obtain⟨aj,ak,ad,ck,aS,rfl,-,aN,aM,ax,aB,am⟩:=E.open;clear G E O ax aB am;have B0:Hid (Below w.heap.size w (w.alloc (.cells #[af ae t.kind,ah t.text,ag aj t.leads.length ak,ag ad t.kids.length ck] 26))):=(Below.refl _ _).alloc (an _) _;go_enter Tryz.func123,Tryz.ntmps123;go_wp2_with fail;refine(A9 t.size t (an _) ab.out h w.heap.size _ _ 0 [] (bN.refl (Y.out.alloc _) (Ow.nil _ _ _ _ _) PcV.nil (by simp)) (by omega) _ ac.out).mono ?_;rintro e w2 ⟨aQ,aG,aJ,rfl,M,aO⟩;have A:=aa M;clear M;go_wp2_with fail;go_ret;exact⟨_,aG,aJ,rfl,A.out.own,A.out.ok,A.out.I,B0.out.trans ⟨A.out.gr.os,A.out.gr.tape,A.out.gr.output,A.out.gr.size,fun k aL=>A.out.gr.block k (by simp;omega) (fun e=>by cases e)⟩,by omega⟩
def jz(ks:List Tree)(n:Nat):Prop:=∀a,a<n→∀b,b<a→(ks.getD a default).text≠(ks.getD b default).text
theorem jz.nodup{A:List Tree}(h:jz A A.length):(A.map Tree.text).Nodup:=by unfold List.Nodup;rw[List.pairwise_iff_getElem];intro i j E hj G;simp only[dL]at E hj;simp only[eU];have:=h j hj i G;rw[getD_at hj,getD_at E]at this;exact fun e=>this e.symm
theorem zQ(A:List Tree):jz A 0:=fun a h=>absurd h (by omega)
def nZ(ks:List Tree)(a n:Nat):Prop:=∀b,b<n→(ks.getD a default).text≠(ks.getD b default).text
theorem nZ.next{A:List Tree}{a n:Nat}(h:nZ A a n)(e:(A.getD a default).text≠(A.getD n default).text):nZ A a (n+1):=fun b E=>by
 rcases b7 b n with q|q;·exact h b q
 ·obtain rfl:b=n:=by omega
  exact e
theorem jz.next{A:List Tree}{n:Nat}(h:jz A n)(e:nZ A n n):jz A (n+1):=fun a G b E=>by
 rcases b7 a n with q|q;·exact h a q b E
 ·obtain rfl:a=n:=by omega
  exact e b E
theorem G7{ts:List Tree}(h:jz ts ts.length)(k:∀a,a<ts.length→jz (ts.getD a default).kids (ts.getD a default).kids.length):rU ts:=by refine⟨h.nodup,fun t E=> ?_⟩;obtain⟨i,A,rfl⟩:=List.mem_iff_getElem.1 E;have:=(k i A).nodup;rwa[getD_at A]at this
end Go.Proofs.YtdplggpbgommnaaGreatDoor
