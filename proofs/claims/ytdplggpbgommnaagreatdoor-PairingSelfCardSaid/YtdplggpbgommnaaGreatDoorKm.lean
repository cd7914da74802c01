/- semvcsref03.Bare. -/
import Derived.Test.YtdplggpbgommnaaGreatDoorG33
import Derived.Test.YtdplggpbgommnaaGreatDoorKl
open Go.Act renaming put→br
open Go.IntKind renaming i64→ae
open Go.Lib renaming hid→aa
open Go.RowKit.Below renaming refl→aD
open Go.Value renaming int→af,slice→ag,string→ah
open List renaming setIfInBounds_toArray→bh,set_cons_succ→bf,set_cons_zero→be
open Option.some renaming inj→aU
set_option maxRecDepth 100000
set_option maxHeartbeats 8000000
namespace Go.Proofs.YtdplggpbgommnaaGreatDoor
open Go.RowKit
theorem Bi(ts:List Tree)(j:Nat)(hj:j<ts.length):aN (ts.take (j+1))=aN (ts.take j)++[ts[j].bare]:=by rw[List.take_add_one,List.getElem?_eq_getElem hj,vh];simp[aN]
structure eF(h:Hp)(w:World)(t:Tree)(cT:Array Value)(bu:Nat)(h1:Hp)(wr:World)(j:Nat)(v:Value)(xs:List Value):Prop where
 st:St w.heap.size h w h1 wr
 tb:Has wr w.heap.size cT
 rb:Has wr (w.heap.size+1) #[af ae 0,ah ⟨#[]⟩,ag none 0 0,ag none 0 0]
 ub:Has wr bu #[af ae t.kind,ah t.text,ag none 0 0,v]
 rn:h1 (w.heap.size+1)=none
 un:h1 bu=none
 blt:w.heap.size+1<bu
 row:Ow wr h1 (w.heap.size+2) 26 4 v j xs
 ne:v.ownBlock≠some bu
 enc:aJ (bg h1) (aN (t.kids.take j)) xs
section
variable {h h1 h2:Hp} {w wr w2:World} {t:Tree} {cT:Array Value} {bu j:Nat} {v:Value} {xs:List Value}
theorem eF.call(a:eF h w t cT bu h1 wr j v xs)(s:St wr.heap.size h1 wr h2 w2):eF h w t cT bu h2 w2 j v xs:=
 ⟨a.st.call s,a.tb.below s.below,a.rb.below s.below,a.ub.below s.below,(s.aI _ a.rb.lt).trans a.rn,(s.aI _ a.ub.lt).trans a.un,a.blt,a.row.call s,a.ne,a.enc.mono fun _ _ r=>r.mono s.le⟩
theorem eF.below(a:eF h w t cT bu h1 wr j v xs)(b:Below wr.heap.size wr w2):eF h w t cT bu h1 w2 j v xs:=a.call (St.pI a.st.I b)
theorem eF.drew(a:eF h w t cT bu h1 wr j v xs):eF h w t cT bu h1 wr.drew j v xs:=a.below (aD _ _).drew
theorem eF.alloc(a:eF h w t cT bu h1 wr j v xs)(o:Obj):eF h w t cT bu h1 (wr.alloc o) j v xs:=a.below ((aD _ _).alloc (Nat.le_refl _) o)
theorem eF.vr(a:eF h w t cT bu h1 wr j v xs):St (w.heap.size+2) h1 wr h1 wr:=St.dN a.st.I (by have:=a.ub.lt;have:=a.blt;omega)
theorem eF.Bj(a:eF h w t cT bu h1 wr j v xs)(g:wr.grownBy w2 v.ownBlock):Has w2 bu #[af ae t.kind,ah t.text,ag none 0 0,v]:=a.ub.grown g a.ne
theorem eF.qp(a:eF h w t cT bu h1 wr j v xs)(g:wr.grownBy w2 v.ownBlock):Has w2 w.heap.size cT:=a.tb.grown g fun e=>by have:=(a.row.lt _ e).1;omega
theorem eF.Jq(a:eF h w t cT bu h1 wr j v xs){B:Nat}{A:Hp}{w0:World}(s:St B A w0 h1 w2):ao h w2:=fun b c E=>s.I b c (a.st.le b c E)
theorem eF.next{v':Value}{A E G M:Value}(a:eF h w t cT bu h1 wr j v xs)(ab:Ow w2 h1 (w.heap.size+2) 26 4 v' (j+1) (xs++[A,E,G,M]))(g:wr.grownBy w2 v.ownBlock)(bk:v'.ownBlock=v.ownBlock∨v'.ownBlock=some wr.heap.size)(hj:bg h1 (t.kids.getD j default).bare [A,E,G,M])(O:j<t.kids.length):eF h w t cT bu h1 (w2.setCell ⟨bu,3,none⟩ v') (j+1) v' (xs++[A,E,G,M]):=by
 have ac:=a.Bj g;have aj:=a.ub.lt;have rb:Has w2 (w.heap.size+1) _:=a.rb.grown g fun e=>by have:=(a.row.lt _ e).1;omega
 have Y:v'.ownBlock≠some bu:=fun e=>by
  rcases bk with q|q;·rw[q]at e;exact a.ne e
  ·rw[q]at e;have:=aU e;omega
 have ad:=a.blt;have st:St w.heap.size h w h1 w2:=a.st.grown g fun k e=>⟨by have:=(a.row.lt k e).1;omega,a.row.free k e⟩
 refine⟨st.setCell (p:=⟨bu,3,none⟩) (by show _≤bu;omega) a.un _,(a.qp g).ne (by omega) _ _,rb.ne (by omega) _ _,ac.fg 3 (by simp) v',a.rn,a.un,a.blt,ab.setCell Y _,Y,?_⟩;rw[Bi _ _ O];rw[getD_at O]at hj;exact a.enc.append (aJ.one hj)
end
def Jr(h:Hp)(w:World)(t:Tree)(e:Ending)(w':World):Prop:=∃v' h',e= .returned v'∧St w.heap.size h w h' w'∧aP h' v' t.bare
theorem Js(m:Nat)(de:m≤1000000):∀(t:Tree) (_:t.size≤m) (h:Hp) (w:World) (_:ao h w) (v:Value) (_:aP h v t),Calls Tryz.prog 19 #[v] w (Jr h w t):=by
 induction m with
 |zero=>intro t dg;have:=t.size_eq;omega
 |succ m bq=>
  intro t cv h w a9 v bm;have aB:=aa a9;have bS:=aa (bq (by omega));have hz:=Tree.size_eq t;rw[hz]at cv;obtain⟨ad,ak,ac,ck,dE,rfl,ba,db,ct,cu,bd,a8⟩:=bm.open;have bO:=aa bd;have bL:=aa a8;have bN:=aa ba;clear bq bm a9 bd cu a8 hz ba
  have B0:Hid (eF h w t #[af ae t.kind,ah t.text,ag ad t.leads.length ak,ag ac t.kids.length ck] (w.heap.size+1+1) h (((w.alloc (.cells #[af ae t.kind,ah t.text,ag ad t.leads.length ak,ag ac t.kids.length ck] 26)).alloc (.cells #[af ae 0,ah ⟨#[]⟩,ag none 0 0,ag none 0 0] 26)).alloc (.cells #[af ae t.kind,ah t.text,ag none 0 0,ag none 0 0] 26)) 0 (ag none 0 0) []):=
   ⟨(((St.refl aB.out).alloc _).alloc _).alloc _,((Has.new _ _ _).alloc _).alloc _,(Has.kY _ _ _ _).alloc _,by have:=Has.new ((w.alloc (.cells #[af ae t.kind,ah t.text,ag ad t.leads.length ak,ag ac t.kids.length ck] 26)).alloc (.cells #[af ae 0,ah ⟨#[]⟩,ag none 0 0,ag none 0 0] 26)) #[af ae t.kind,ah t.text,ag none 0 0,ag none 0 0] 26;simpa using this,bI aB.out _ (by omega),bI aB.out _ (by omega),by omega,Ow.nil _ _ _ _ _,fun e=>by simp[Value.ownBlock]at e,by simp[aN,aJ]⟩
  go_enter Tryz.func19,Tryz.ntmps19;go_wp2_with fail;go_loopw[4,10,11,12,13,14,15,16,17,18,19,20,21,22,23,24,25,26,27] (fun i _ _ _ _ _ _ _ _ _ _ _ _ _ _ _ _ _ _ wr=>∃(j:Nat) (h1:Hp) (v:Value) (xs:List Value),j≤t.kids.length∧i=af ae j∧eF h w t #[af ae t.kind,ah t.text,ag ad t.leads.length ak,ag ac t.kids.length ck] (w.heap.size+1+1) h1 wr j v xs) (fun i _ _ _ _ _ _ _ _ _ _ _ _ _ _ _ _ _ _ _=>t.kids.length-(intOf i).toNat);case atStart=>exact⟨0,h,_,_,Nat.zero_le _,rfl,B0.out⟩
  case round=>
   obtain⟨j,h1,dv,xs,c9,rfl,O⟩:=hrel;obtain⟨av,M,rfl⟩:=O.row.shape;clear B0;obtain⟨bu,aL⟩:∃b,b=w.heap.size+1+1:=⟨_,rfl⟩
   rw[←aL]at O;have A:=aa O;have ab:=aa aL;obtain⟨⟨dw,dA,dC,dD⟩,-⟩:=O.tb.four;have dj:=O.tb.lt;clear O aL;by_cases hj:j<t.kids.length
   ·obtain⟨b,Y,bX,b9,bT,bZ,rfl,bp,aM⟩:=ed bO.out bL.out j hj;have bR:=aa bp;have aS:=aa fun w' (cw:ao h w')=>aM w' cw;obtain⟨aV,aX,aY,a1⟩:=aM wr A.out.st.gq;have dr:(0:Int)≤(j:Int):=by omega
    have dt:(j:Int)<(t.kids.length:Int):=by omega
    have cq:=aa (show t.kids[j].size≤m by have:=dB (List.getElem_mem hj);omega);have c8:j≤1000000:=by have:=su t.kids;omega
    have bJ:Hid (t.kids.getD j default=t.kids[j]):=getD_at hj;have bE:=A.out.ub.cl 3;have bv:=A.out.ub.lt;clear bp aM;go_upto_region 5 with fail;rw[←ab.out];refine wp_region_noPanic ?_;refine nE (n:=11) (S:=fun w'=>w'.cell? ⟨bu,3,none⟩=some (ag av j M)∧w'.cell? ⟨w.heap.size,3,none⟩=some (ag (some ⟨b,Y,none⟩) t.kids.length ck)∧w'.cell? ⟨b,Y+j*4,none⟩=some (af ae t.kids[j].kind)∧w'.cell? ⟨b,Y+j*4+1,none⟩=some (ah t.kids[j].text)∧w'.cell? ⟨b,Y+j*4+2,none⟩=some (ag bX t.kids[j].leads.length b9)∧w'.cell? ⟨b,Y+j*4+3,none⟩=some (ag bT t.kids[j].kids.length bZ)) (by kernel_rfl) ?_ (fun c6=> ?_);·go_keep
    simp only[Array.replicate,List.replicate,List.size_toArray,List.length_cons,List.length_nil,Nat.zero_add,Nat.reduceAdd]
    iterate 7
     refine iL (v:= ?_) 0 rfl (by kernel_rfl) (fun _ _ _ h=>h) (by rfl) (by assumption) ?_ ?_
     rotate_left
     ·intro w co;(try dsimp only at co);simp only[nx];go_simp<;>with_reducible rfl
     simp only[nx,br,List.getElem_toArray,List.getElem_cons_succ,List.getElem_cons_zero,bh,be,bf]
    refine cE (rs:=[7]) (by kernel_rfl) (by simp) ?_;refine aZ.cons (o:=_) rfl (fun K E=> ?_) aZ.nil;go_simp;go_at_call 19;refine(bS.out _ cq.out h1 _ A.out.drew.st.I _ (bR.out.mono A.out.st.le)).mono ?_;rintro e cQ ⟨du,h7,rfl,bB,aO⟩;obtain⟨bY,cc,bV,b0,-,rfl,-,-,-,-,-,-⟩:=aO.open;have bH:=aa (dq aO);have G:=aa (A.out.drew.call bB);clear aO bB;have cS:=G.out.ub.cl 3;have cV:=G.out.tb.cl 3;have⟨aV,aX,aY,a1⟩:=aS.out _ G.out.st.gq;refine E.out _ _ (fun _=> ?_) ?_;·exact⟨cS,cV,aV,aX,aY,a1⟩
    clear E K;try simp only[bh,be,bf]
    refine cE (rs:=[8]) (by kernel_rfl) (by simp) ?_;refine aZ.cons (o:=_) rfl (fun K E=> ?_) aZ.nil;go_simp;refine E.out _ _ (fun _=> ?_) ?_;·go_keep
    clear E K;try simp only[bh,be,bf]
    refine cE (rs:=[9]) (by kernel_rfl) (by simp) ?_;refine aZ.cons (o:=_) rfl (fun K E=> ?_) aZ.nil;refine gS iJ (by rfl) _ _ (by rfl) (G.out.alloc _).vr (ag av j M) j xs (by rfl) (G.out.alloc _).row ⟨cQ.heap.size,0,none⟩ 1 1 [af ae t.kids[j].bare.kind,ah t.kids[j].bare.text,ag bY t.kids[j].bare.leads.length cc,ag bV t.kids[j].bare.kids.length b0] (by rfl) (by rfl) (cK _ _ _ _ rfl) (cm _ rfl) (by omega) (by omega) ?_;intro cZ cg aQ bC bz am aT;have bG:=aa ((G.out.alloc _).next bz am aT (by rw[bJ.out];exact bH.out) hj);have aj:=(G.out.alloc _).Bj am;have cU:aQ.cell? ⟨bu,3,none⟩=some (ag av j M):=aj.cl 3;have cY:=aj.fz 3;have dh:=aj.lt;have cX:aQ.cell? ⟨w.heap.size,3,none⟩=some (ag (some ⟨b,Y,none⟩) t.kids.length ck):=((G.out.alloc _).qp am).cl 3;have⟨cj,g1,cl,cn⟩:=aS.out aQ (G.out.Jq bC);clear bC bz am aT aj;refine E.out _ _ (fun _=> ?_) ?_;·exact⟨cU,cX,cj,g1,cl,cn⟩
    clear E K;try simp only[br,bh,be,bf]
    refine cE (rs:=[10]) (by kernel_rfl) (by simp) ?_;refine aZ.cons (o:=_) rfl (fun K E=> ?_) aZ.nil;go_simp;refine E.out _ _ (fun _=> ?_) ?_;·go_keep
    clear E K;try simp only[bh,be,bf]
    refine cE (rs:=[11]) (by kernel_rfl) (by simp) ?_;refine aZ.cons (o:=_) rfl (fun K E=> ?_) aZ.nil;go_simp;refine E.out _ _ (fun h=>absurd h (by decide)) ?_;clear E K;try simp only[bh,be,bf]
    refine lK (by kernel_rfl) ?_ _;simp only[NoPanic];rw[ab.out];go_wp2_with fail;go_roundw;case rel=>exact⟨j+1,h7,_,_,by omega,by go_num,by rw[←ab.out];exact bG.out⟩
    case measure=>simp[intOf];omega
   ·obtain rfl:j=t.kids.length:=by omega
    obtain⟨⟨cG,cM,cN,bE⟩,cd,ce,cf,ci⟩:=A.out.ub.four;obtain⟨⟨r0,cC,cD,cF⟩,dk,dm,dn,dp⟩:=A.out.rb.four;have bv:=A.out.ub.lt;have di:=A.out.rb.lt;have cA:bu≠w.heap.size+1:=by have:=A.out.blt;omega
    rw[ab.out]at cG cM cN bE cd ce cf ci bv cA;go_wp2_with fail;refine bodyPost_ret (v:= .agg #[af ae t.kind,ah t.text,ag none 0 0,ag av t.kids.length M]) (by simp[results,Tryz.results19,go_sem,r0,cC,cD,cF]) rfl ?_;have bA:=A.out.st.aM (b:=w.heap.size+1) (Nat.le_succ _) A.out.rn (af ae t.kind) (ah t.text) (ag none 0 0) (ag av t.kids.length M);have ax:(ag av t.kids.length M).ownBlock≠some (w.heap.size+1):=fun e=>by have:=(A.out.row.lt _ e).1;omega
    have cB:=(((A.out.row.setCell (p:=⟨w.heap.size+1,0,none⟩) ax (af ae t.kind)).setCell (p:=⟨w.heap.size+1,1,none⟩) ax (ah t.text)).setCell (p:=⟨w.heap.size+1,2,none⟩) ax (ag none 0 0)).setCell (p:=⟨w.heap.size+1,3,none⟩) ax (ag av t.kids.length M);have cz:=(cB.base (B':=w.heap.size) (by omega)).sl ct;have a4:=A.out.enc;rw[List.take_length]at a4;refine⟨_,_,rfl,bA.fr,[af ae t.kind,ah t.text,ag none 0 0,ag av t.kids.length M],rfl,?_⟩;rw[bg.iff];have a5:(aN t.kids).length=t.kids.length:=by rw[iY,List.length_map]
    have a2:t.bare.kind=t.kind:=o8 t;have ch:t.bare.text=t.text:=o9 t;have aG:t.bare.kids=aN t.kids:=rT t;have a3:t.bare.leads=[]:=by cases t;rw[Tree.bare];rfl
    refine⟨none,0,av,M,xs,by rw[a2,ch,aG,a3,a5];rfl,by rw[a2];exact bN.out,by rw[a3];exact Sl.nil _ _ _ _,by rw[aG,a5];exact cz,by rw[aG];exact a4.mono fun _ _ r=>r.mono (Hp.gQ bA.I)⟩
end Go.Proofs.YtdplggpbgommnaaGreatDoor
