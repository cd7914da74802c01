/- pairing.split. -/
import Derived.Test.YtdplggpbgommnaaGreatDoorG26
open Array renaming replicate->kD
open Go renaming madeCells->eS,wp_region_noPanic->K6
open Go.Act renaming put->br
open Go.IntKind renaming i64->ae
open Go.Lib renaming hid->aa
open Go.Proofs.Tryz renaming prog->ai
open Go.RowKit.Below renaming refl->aD
open Go.Value renaming bool->ay,int->af,slice->ag,string->ah
open Go.Value.agg renaming injEq->oG
open Go.Value.slice renaming injEq->bU
open List renaming getElem?_cons_succ->bQ,getElem?_cons_zero->bc,getElem?_toArray->bw,getElem_cons_succ->dV,getElem_cons_zero->dJ,getElem_mem->aK,getElem_toArray->eV,length_append->cI,length_cons->bF,length_nil->cL,replicate->aA,setIfInBounds_toArray->bh,set_cons_succ->bf,set_cons_zero->nu,size_toArray->j6,take_length->cP,take_succ_eq_append_getElem->K1
open List.cons renaming injEq->ii
open Nat renaming le_refl->kI,lt_of_lt_of_le->bK,reduceAdd->fM,zero_add->cO,zero_le->aW
open Option.some renaming inj->aU
set_option maxRecDepth 100000
set_option maxHeartbeats 8000000
namespace Go.Proofs.YtdplggpbgommnaaGreatDoor
open Go.RowKit
theorem Ae(h:Hp)(w:World)(ab:ao h w)(v:Value)(ts:List Tree)(hv:hQ h v ts)(ea:ts.length<=1000000)(hz:∀t∈ts,t.size<=1000000)(hd:(aj 0 ts).length<=1000000):Calls ai 23 #[v] w (zV h w ts):=by
 have eN:=aa hv;obtain⟨cs,cU,bd⟩:=hv;obtain⟨a,aJ,rfl,fr⟩:=cU.shape;have eM:=aa cU;have eH:=aa bd;have eO:=aa hz;have eK:Hid (∀b,w.heap.size<=b->h b=none):=fun b ea=>bI ab b ea
 have dg:Hid (GA h (w.alloc (.cells #[ag a ts.length aJ,ag none 0 0,ag none 0 0,ag none 0 0,ag none 0 0,ag none 0 0] 62)) w.heap.size (ag a ts.length aJ) (fun _=>mY) [] ts [] 0):=
  ⟨⟨ab.alloc _,jV.start _ _ _ _ _,Has.new w #[ag a ts.length aJ,ag none 0 0,ag none 0 0,ag none 0 0,ag none 0 0,ag none 0 0] 62,bI ab _ (kI _)⟩,⟨rfl,rfl⟩,rfl,⟨rfl,rfl⟩,⟨rfl,rfl⟩,⟨rfl,rfl⟩,⟨rfl,rfl⟩,fun i ab=>(Nat.not_lt_zero _ ab).elim,fun i _=>rfl,fun i ab=>(Nat.not_lt_zero _ ab).elim⟩
 have B0:Hid (Below w.heap.size w (w.alloc (.cells #[ag a ts.length aJ,ag none 0 0,ag none 0 0,ag none 0 0,ag none 0 0,ag none 0 0] 62))):=(aD _ _).alloc (kI _) _;have f6:= @run_makeMap ai;clear cU bd ab hz;go_in;go_wp2_with fail;go_loopw[15] (fun i wr=>∃(j:Nat) (F:Nat->bY) (ms:List Nat),j<=ts.length/\i=af ae j/\GA h wr w.heap.size (ag a ts.length aJ) F ms ts (aj 0 (ts.take j)) j/\(∀m∈ms,m<wr.heap.size)/\Below w.heap.size w wr) (fun i _=>ts.length-(intOf i).toNat);case atStart=>exact⟨0,fun _=>mY,[],aW _,rfl,dg.out,fun m hm=>(List.not_mem_nil hm).elim,B0.out⟩
 case round=>
  obtain⟨j,F,ms,f3,rfl,g,cd,bl⟩:=hrel;clear dg B0;by_cases hj:j<ts.length
  ·have bE:=g.mem.I;obtain⟨b,off,al,cD,cC,ck,rfl,gB,d0,bR,bS,bT,ep⟩:=j9 eM.out eH.out bE j hj;have eF:Hid (ts.getD j default=ts[j]):=getD_at hj;have di:Hid (aj 0 (ts.take (j+1))=aj 0 (ts.take j)++dt j 1 ts[j].kids):=Hd ts j hj;have eD:=He ts (j+1);rw[di.out,cI,rZ]at eD;have fw:=eO.out _ (aK hj);obtain⟨fZ,f1,fY,f0,xs,dY,-,-,f4,-,ed,he⟩:=ep.open;simp only[oG,Array.mk.injEq,ii,bU,and_true,true_and]at dY;obtain⟨⟨rfl,rfl⟩,rfl,rfl⟩:=dY;generalize ts[j]=t at*;generalize aj 0 (ts.take j)=D at*;have e7:=aa ed;have eI:=aa he;have cj:=t.size_eq;have cv:Below wr.heap.size wr ((wr.alloc (.cells #[af ae t.kind,ah t.text,ag al t.leads.length cD,ag cC t.kids.length ck] 26)).alloc (.map #[] 0)):=((aD _ _).alloc (kI _) _).alloc (by simp) _;have dh:=aa (g.below cv);have dr:Hid (aS dQ ((wr.alloc (.cells #[af ae t.kind,ah t.text,ag al t.leads.length cD,ag cC t.kids.length ck] 26)).alloc (.map #[] 0)) (wr.heap.size+1) []):=by have:=aS.new dQ (wr.alloc (.cells #[af ae t.kind,ah t.text,ag al t.leads.length cD,ag cC t.kids.length ck] 26));unfold Hid;simpa using this
   have c8:=aa (bl.trans (cv.mono bl.size))
   have e1:Hid (∀i,i<j->ms.getD i 0≠wr.heap.size+1):=fun i ab e=>by
    have hm:i<ms.length:=by rw[g.nm];exact ab
    have:=cd _ (by rw[getD_at hm];exact aK hm:ms.getD i 0∈ms);omega
   have eJ:=aa cd;have f7:=bl.size;have f2:=g.mem.box.lt;obtain⟨O,rfl⟩:∃O:World,O=wr:=⟨_,rfl⟩
   have e5:Hid (h (O.heap.size+1)=none):=eK.out _ (by omega);have gm:(0:Int)<=(j:Int):=by omega
   have gp:(j:Int)<(ts.length:Int):=by omega
   have dD:=aa cj;clear g cd bl cv bE ed he ep cj;go_wp2_with fail;go_loopw[7,24] (fun n i cn=>∃(z:Nat) (G:Nat->bY),z<=t.kids.length/\n=af ae (1+ax (t.kids.take z):Nat)/\i=af ae z/\GA h cn w.heap.size (ag (some ⟨b,off,none⟩) ts.length aJ) G ms ts (D++dt j 1 (t.kids.take z)) j/\aS dQ cn (O.heap.size+1) (bX (t.kids.take z))/\Below w.heap.size w cn/\O.heap.size+1<cn.heap.size) (fun _ i _=>t.kids.length-(intOf i).toNat);case atStart=>exact⟨0,F,aW _,congrArg (af ae) (by simp[ax]),rfl,by simpa[dt]using dh.out,by simpa[bX]using dr.out,c8.out,by simp⟩
   case round=>
    obtain⟨z,G,f8,rfl,rfl,g,m,bl,f5⟩:=hrel;clear dh dr c8;by_cases ce:z<t.kids.length
    ·have bE:=g.mem.I;obtain⟨bk,ok,aO,aQ,aN,aP,rfl,gC,e9,bd,fb,bV,er⟩:=j9 e7.out eI.out bE z ce;have fE:=eY t.kids z ce;have fx:=jK t.kids (z+1);have dp:Hid (D++dt j 1 (t.kids.take (z+1))=(D++dt j 1 (t.kids.take z))++[⟨j,1+ax (t.kids.take z),t.kids[z]⟩]):=by unfold Hid;rw[K1 ce,zU,List.append_assoc]
     have e4:Hid (bX (t.kids.take (z+1))=aY (bX (t.kids.take z)) (t.kids[z].kind,t.kids[z].text) (ay true)):=by unfold Hid;rw[K1 ce];unfold bX;rw[List.foldl_append];rfl
     have fV:(D++dt j 1 (t.kids.take z)).length+1<=1000001:=by rw[cI,rZ,List.length_take];omega
     generalize t.kids[z]=J at*;have cj:=dD.out;obtain⟨bp,d8⟩:∃q,q=1+ax (t.kids.take z):=⟨_,rfl⟩
     rw[<-d8]at dp⊢;obtain⟨e3,d9⟩:∃q,q=1+ax (t.kids.take (z+1)):=⟨_,rfl⟩
     have w2:ae.wrap ((bp:Int)+(J.size:Int))=(e3:Int):=by rw[bA (by omega)];omega
     have kb:J.size<=1000000000:=by omega
     have eL:=aa d9;clear d8 d9 fE fx cj;generalize D++dt j 1 (t.kids.take z)=ds at*;generalize bX (t.kids.take z)=ej at*;obtain⟨am,fu,ei,g2⟩:∃am,(Instr.mapUpdate 97 (.map (some (O.heap.size+1))) (.agg #[af ae J.kind,ah J.text]) (ay true)).run ai (wr.alloc (.cells #[af ae J.kind,ah J.text,ag aO J.leads.length aQ,ag aN J.kids.length aP] 26))= .ok () am/\aS dQ am (O.heap.size+1) (aY ej (J.kind,J.text) (ay true))/\(wr.alloc (.cells #[af ae J.kind,ah J.text,ag aO J.leads.length aQ,ag aN J.kids.length aP] 26)).grownBy am (some (O.heap.size+1)):=⟨_,aS.put x4 (m.tu ((Tu.refl (fun _=>False) wr).alloc _) id) (J.kind,J.text) (ay true) 97 4 Tryz.underlying97⟩
     have cf:Tu (fun b=>b=O.heap.size+1) wr am:=((Tu.refl _ _).alloc _).grown g2 fun k e=> .inl (aU e).symm;have ta:Tu (fun b=>b=O.heap.size+1) (wr.alloc (.cells #[af ae J.kind,ah J.text,ag aO J.leads.length aQ,ag aN J.kids.length aP] 26)) am:=(Tu.refl _ _).grown g2 fun k e=> .inl (aU e).symm;have fv:O.heap.size+1≠w.heap.size:=by omega
     have a5:=aa (g.tu cf fun b e=>by subst e;exact⟨fv,e5.out,fun k=>(g.mem.rows.own k).rY m,fun i ab e=>e1.out i ab e.symm⟩);have a1:=aa ((Has.new wr #[af ae J.kind,ah J.text,ag aO J.leads.length aQ,ag aN J.kids.length aP] 26).tu ta (by omega));have cz:Hid (∀k,(G k).v.ownBlock≠some wr.heap.size):=fun k e=>by have:=g.mem.hJ k e;omega
     have fh:w.heap.size≠wr.heap.size:=by have:=g.mem.box.lt;omega
     have cu:=aa (bl.trans (cf.jR (N:=w.heap.size) bl.size fun k e=>by omega));have eb:O.heap.size+1<am.heap.size:=by have:=cf.size;omega
     have du:=aa ei;have dC:=aa er;have gh:(0:Int)<=(z:Int):=by omega
     have gi:(z:Int)<(t.kids.length:Int):=by omega
     clear g m bl bE cf ta g2 ei er;go_wp2_with fail;clear fu e9 bd fb bV;generalize wr.heap.size=db at*;have aX:=aa a5.out.mem;have dk:=aa a5.out.mem.I;have dw:Hid (Ow am h (w.heap.size+1) 101 6 (G 1).v ds.length (G 1).xs):=by have:=a5.out.mem.rows.own 1;rw[a5.out.n1.1]at this;exact this
     have dN:=aX.out.box.cl 2;have fG:=aX.out.box.lt;have dO:=a1.out.cl 0;have b1:=a1.out.cl 1;have b2:=a1.out.cl 2;have b3:=a1.out.cl 3;simp only[bw,bc,bQ]at dN dO b1 b2 b3;have fT:=a1.out.lt;refine K6 ?_;refine nE (n:=13) (S:=fun w'=>w'.cell? ⟨w.heap.size,2,none⟩=some (G 1).v/\w'.cell? ⟨db,0,none⟩=some (af ae J.kind)/\w'.cell? ⟨db,1,none⟩=some (ah J.text)/\w'.cell? ⟨db,2,none⟩=some (ag aO J.leads.length aQ)/\w'.cell? ⟨db,3,none⟩=some (ag aN J.kids.length aP)) (by kernel_rfl) ?_ (fun cF=> ?_);·go_keep
     simp only[kD,aA,j6,bF,cL,cO,fM]
     iterate 9
      refine iL (v:= ?_) 0 rfl (by kernel_rfl) (fun _ _ _ h=>h) (by rfl) (by assumption) ?_ ?_
      rotate_left
      ·intro w bg;(try dsimp only at bg);simp only[nx];go_simp<;>with_reducible rfl
      simp only[nx,br,eV,dV,dJ,bh,nu,bf]
     refine cE (rs:=[9]) (by kernel_rfl) (by simp) ?_;refine aZ.cons (o:=_) rfl (fun K hK=> ?_) aZ.nil;go_simp;refine hK.out _ _ (fun _=> ?_) ?_;·go_keep
     clear hK K;try simp only[bh,nu,bf]
     refine cE (rs:=[10]) (by kernel_rfl) (by simp) ?_;refine aZ.cons (o:=_) rfl (fun K hK=> ?_) aZ.nil;refine gS EY (by rfl) _ _ (by rfl) (B:=w.heap.size+1) (St.dN (dk.out.drew.alloc _) (by have:=aX.out.box.lt;simp;omega)) _ ds.length (G 1).xs (by rfl) (dw.out.drew.alloc _) ⟨am.heap.size,0,none⟩ 1 1 [af ae j,af ae bp,af ae J.kind,ah J.text,ag aO J.leads.length aQ,ag aN J.kids.length aP] (by rfl) (by rfl) (cK _ _ _ _ (by simp)) (cm _ rfl) (by omega) (by omega) ?_;intro ak cg w3 fA el d4 dR;have ch:Tu (fun b=>(G 1).v.ownBlock=some b) am w3:=(((Tu.refl _ am).drew).alloc _).grown d4 fun k e=> .inl e;have PX:Hid (ec h (w3.setCell ⟨w.heap.size,2,none⟩ (ag (some ⟨ak,0,none⟩) (ds.length+1) cg)) w.heap.size (ag (some ⟨b,off,none⟩) ts.length aJ) (ba G 1 ⟨ag (some ⟨ak,0,none⟩) (ds.length+1) cg,ds.length+1,(G 1).xs++[af ae j,af ae bp,af ae J.kind,ah J.text,ag aO J.leads.length aQ,ag aN J.kids.length aP]⟩)/\Tu (fun b=>b=w.heap.size\/(G 1).v.ownBlock=some b) am (w3.setCell ⟨w.heap.size,2,none⟩ (ag (some ⟨ak,0,none⟩) (ds.length+1) cg))):=by have q:=aX.out.put 1 (by omega) (bY.mk (ag (some ⟨ak,0,none⟩) (ds.length+1) cg) (ds.length+1) ((G 1).xs++([af ae j,af ae bp,af ae J.kind,ah J.text,ag aO J.leads.length aQ,ag aN J.kids.length aP]:List Value))) ch el (by rcases dR with e|e;exact .inl e;exact .inr ⟨_,e,by simp⟩);exact q
     have b0:=aX.out.behind 1 ch;have c2:=b0.cl 2;have fd:=b0.fz 2;have fO:=b0.lt;have bG:=a1.out.tu ch fun e=>cz.out 1 e;have d0:=bG.cl 0;have bR:=bG.cl 1;have bS:=bG.cl 2;have bT:=bG.cl 3;simp only[bw,bc,bQ]at c2 d0 bR bS bT;clear fA el d4 dR ch b0 bG;refine hK.out _ _ (fun _=> ?_) ?_;·exact⟨c2,d0,bR,bS,bT⟩
     clear hK K;try simp only[br,bh,nu,bf]
     refine cE (rs:=[11]) (by kernel_rfl) (by simp) ?_;refine aZ.cons (o:=_) rfl (fun K hK=> ?_) aZ.nil;go_simp;refine hK.out _ _ (fun _=> ?_) ?_;·go_keep
     clear hK K;try simp only[bh,nu,bf]
     refine iL (v:= ?_) 12 rfl (by kernel_rfl) (fun _ _ _ h=>h) (by rfl) (by go_keep) ?_ ?_
     rotate_left
     ·intro w bg;(try dsimp only at bg);simp only[nx];go_simp<;>with_reducible rfl
     simp only[nx,br,eV,dV,dJ,bh,nu,bf];refine cE (rs:=[13]) (by kernel_rfl) (by simp) ?_;refine aZ.cons (o:=_) rfl (fun K hK=> ?_) aZ.nil;go_simp;refine hK.out _ _ (fun h=>absurd h (by decide)) ?_;clear hK K;try simp only[bh,nu,bf]
     refine lK (by kernel_rfl) ?_ _;simp only[NoPanic];have aM:=aa PX.out.1;have bB:=aa PX.out.2;clear PX;generalize w3.setCell ⟨w.heap.size,2,none⟩ (ag (some ⟨ak,0,none⟩) (ds.length+1) cg)=aV at*;have eP:=aa aM.out.I
     have e8:=aa (a1.out.tu bB.out fun e=>by
      rcases e with e|e;·exact fh e.symm
      ·exact cz.out 1 e)
     have eX:=aa (aX.out.map 1 bB.out du.out);have eZ:Hid (∀i,i<j->aS dQ aV (ms.getD i 0) (bX (ts.getD i default).kids)):=fun i ab=>aX.out.map 1 bB.out (a5.out.maps i ab)
     have c9:=aa (cu.out.trans (bB.out.jR (N:=w.heap.size) cu.out.size fun k e=>by
      rcases e with e|e;·omega
      ·have:=aX.out.hJ 1 e;omega))
     have fi:O.heap.size+1<aV.heap.size:=bK eb bB.out.size;have dB:Hid (Ow aV h (w.heap.size+1) 3 1 (G 3).v ds.length (G 3).xs):=by have:=aM.out.rows.own 3;rw[cQ G _ (by decide),a5.out.n3.1]at this;exact this
     have c4:aV.cell? ⟨w.heap.size,4,none⟩=some (G 3).v:=aM.out.box.cl 4;have gz:=aM.out.box.lt;clear dN dO b1 b2 b3 c2 d0 bR bS bT fd fO fT fG cF a1 dw dk du cu eb;go_wp2_with(at_builtin;refine ft fP rfl _ _ rfl (St.dN (B:=w.heap.size+1) (eP.out.alloc _) (by simp;omega)) _ ds.length (G 3).xs rfl (dB.out.alloc _) ⟨aV.heap.size,0,none⟩ 1 1 [af ae (-1)] rfl rfl (cK _ _ _ _ (by simp)) (cm _ rfl) (by omega) ?_;intro gq cZ fB cM d5 dT;obtain⟨bO,c5,rfl⟩:=cM.shape;have ci:Tu (fun b=>(G 3).v.ownBlock=some b) aV cZ:=((Tu.refl _ aV).alloc _).grown d5 (fun k e=> .inl e);have em:=aM.out.put 3 (by omega) (bY.mk (ag bO (ds.length+1) c5) (ds.length+1) ((G 3).xs++([af ae (-1)]:List Value))) ci cM (by rcases dT with e|e;exact .inl e;exact .inr ⟨_,e,by simp⟩);have a8:Hid (ec h (cZ.setCell ⟨w.heap.size,4,none⟩ (ag bO (ds.length+1) c5)) w.heap.size (ag (some ⟨b,off,none⟩) ts.length aJ) (ba (ba G 1 (bY.mk (ag (some ⟨ak,0,none⟩) (ds.length+1) cg) (ds.length+1) ((G 1).xs++([af ae j,af ae bp,af ae J.kind,ah J.text,ag aO J.leads.length aQ,ag aN J.kids.length aP]:List Value)))) 3 (bY.mk (ag bO (ds.length+1) c5) (ds.length+1) ((G 3).xs++([af ae (-1)]:List Value))))/\Tu (fun b=>b=w.heap.size\/(G 3).v.ownBlock=some b) aV (cZ.setCell ⟨w.heap.size,4,none⟩ (ag bO (ds.length+1) c5))):=(by exact em);have b9:=aM.out.behind 3 ci;have dX:=b9.cl 4;have fe:=b9.fz 4;have fQ:=b9.lt;have bz:=e8.out.tu ci (fun e=>cz.out 3 e);have ey:=bz.cl 0;have ez:=bz.cl 1;have eA:=bz.cl 2;have eB:=bz.cl 3;simp only[bw,bc,bQ]at dX ey ez eA eB;have fU:=bz.lt;clear fB cM d5 dT ci em b9 bz dB);refine(nK J.size h _ (by exact a8.out.1.I) _ J (by exact dC.out) (kI _) kb).mono ?_;rintro e c6 ⟨rfl,bq⟩;have a9:=aa (a8.out.1.below bq);have cw:Hid (aS dQ c6 (O.heap.size+1) (aY ej (J.kind,J.text) (ay true))):=(aM.out.map 3 a8.out.2 eX.out).tu ((Tu.refl (fun _=>False) _).below bq) id;have e0:Hid (∀i,i<j->aS dQ c6 (ms.getD i 0) (bX (ts.getD i default).kids)):=fun i ab=>(aM.out.map 3 a8.out.2 (eZ.out i ab)).tu ((Tu.refl (fun _=>False) _).below bq) id
     have co:=c9.out.trans (a8.out.2.jR (N:=w.heap.size) c9.out.size fun k e=>by
      rcases e with e|e;·omega
      ·have:=aM.out.hJ 3 e;omega)
     have bH:=aa (co.trans (bq.mono co.size));have fj:O.heap.size+1<c6.heap.size:=bK fi (Nat.le_trans a8.out.2.size bq.size);have bm:=aa (a5.out.def (d:=⟨j,bp,J⟩) a9.out e0.out rfl rfl ⟨_,rfl,Hg dC.out⟩ rfl rfl);clear a8 bq co dX fe fQ ey ez eA eB fU c4;go_wp2_with fail;go_roundw;case rel=>exact⟨z+1,_,by omega,congrArg (af ae) (by rw[eL.out]),by go_num,by rw[dp.out];exact bm.out,by rw[e4.out];exact cw.out,bH.out,fj⟩
     case measure=>simp[intOf];omega
    ·obtain rfl:z=t.kids.length:=by omega
     rw[cP]at g m⊢;have d1:1+ax t.kids=t.size:=by rw[dD.out];omega
     rw[d1];have bm:=aa g;have cw:=aa m;have bH:=aa bl;have a9:=aa g.mem;have eW:=aa g.mem.I;have dv:Hid (Ow wr h (w.heap.size+1) 97 1 (G 0).v j (G 0).xs):=by have:=g.mem.rows.own 0;rw[g.n0.1]at this;exact this
     have c1:wr.cell? ⟨w.heap.size,1,none⟩=some (G 0).v:=g.mem.box.cl 1;have gy:=g.mem.box.lt;clear g m bl d1
     go_wp2_with(at_builtin;first
      |(refine ft EZ rfl _ _ rfl (St.dN (B:=w.heap.size+1) (eW.out.alloc _) (by simp;omega)) _ j (G 0).xs rfl (dv.out.alloc _) ⟨wr.heap.size,0,none⟩ 1 1 [.map (some (O.heap.size+1))] rfl rfl (cK _ _ _ _ (by simp)) (cm _ rfl) (by omega) ?_;intro gw a4 fC cN d6 dU;obtain⟨aB,aG,rfl⟩:=cN.shape;have cX:Tu (fun b=>(G 0).v.ownBlock=some b) wr a4:=((Tu.refl _ wr).alloc _).grown d6 (fun k e=> .inl e);have en:=a9.out.put 0 (by omega) (bY.mk (ag aB (j+1) aG) (j+1) ((G 0).xs++([.map (some (O.heap.size+1))]:List Value))) cX cN (by rcases dU with e|e;exact .inl e;exact .inr ⟨_,e,by simp⟩);have aT:Hid (ec h (a4.setCell ⟨w.heap.size,1,none⟩ (ag aB (j+1) aG)) w.heap.size (ag (some ⟨b,off,none⟩) ts.length aJ) (ba G 0 (bY.mk (ag aB (j+1) aG) (j+1) ((G 0).xs++([.map (some (O.heap.size+1))]:List Value))))/\Tu (fun b=>b=w.heap.size\/(G 0).v.ownBlock=some b) wr (a4.setCell ⟨w.heap.size,1,none⟩ (ag aB (j+1) aG))):=(by exact en);have bC:=a9.out.behind 0 cX;have bd:=bC.cl 1;have bV:=bC.cl 3;have fc:=bC.fz 1;have fR:=bC.lt;simp only[bw,bc,bQ]at bd bV;have dm:=aa aT.out.1.I;have fF:=aT.out.1.box.lt;have dA:Hid (Ow (a4.setCell ⟨w.heap.size,1,none⟩ (ag aB (j+1) aG)) h (w.heap.size+1) 3 1 (G 2).v j (G 2).xs):=(by have:=aT.out.1.rows.own 2;rw[cQ G _ (by decide),bm.out.n2.1]at this;exact this);clear fC cN d6 dU cX en bC dv)
      |(go_must(refine ft fP rfl _ _ rfl (St.dN (B:=w.heap.size+1) (dm.out.alloc _) (by simp;omega)) _ j (G 2).xs rfl (dA.out.alloc _) ⟨a4.heap.size,0,none⟩ 1 1 [af ae (-1)] rfl rfl (cK _ _ _ _ (by simp[World.setCell])) (cm _ rfl) (by omega) ?_);intro gx cl fD cS d7 dW;obtain⟨a2,a3,rfl⟩:=cS.shape;have cY:Tu (fun b=>(G 2).v.ownBlock=some b) (a4.setCell ⟨w.heap.size,1,none⟩ (ag aB (j+1) aG)) cl:=((Tu.refl _ _).alloc _).grown d7 (fun k e=> .inl e);have eo:=aT.out.1.put 2 (by omega) (bY.mk (ag a2 (j+1) a3) (j+1) ((G 2).xs++([af ae (-1)]:List Value))) cY cS (by rcases dW with e|e;exact .inl e;exact .inr ⟨_,e,by simp⟩);have cA:Hid (ec h (cl.setCell ⟨w.heap.size,3,none⟩ (ag a2 (j+1) a3)) w.heap.size (ag (some ⟨b,off,none⟩) ts.length aJ) (ba (ba G 0 (bY.mk (ag aB (j+1) aG) (j+1) ((G 0).xs++([.map (some (O.heap.size+1))]:List Value)))) 2 (bY.mk (ag a2 (j+1) a3) (j+1) ((G 2).xs++([af ae (-1)]:List Value))))/\Tu (fun b=>b=w.heap.size\/(G 2).v.ownBlock=some b) (a4.setCell ⟨w.heap.size,1,none⟩ (ag aB (j+1) aG)) (cl.setCell ⟨w.heap.size,3,none⟩ (ag a2 (j+1) a3))):=(by exact eo);have cc:=aT.out.1.behind 2 cY;have d2:=cc.cl 3;have fg:=cc.fz 3;have fS:=cc.lt;simp only[bw,bc,bQ]at d2;clear fD cS d7 dW cY eo cc dA))
     have cB:=aa aT.out.1;have bL:=aa aT.out.2;have aL:=aa cA.out.1;have bN:=aa cA.out.2;clear aT cA bd bV fc fR d2 fg fS dm fF;generalize a4.setCell ⟨w.heap.size,1,none⟩ (ag aB (j+1) aG)=fX at*;generalize cl.setCell ⟨w.heap.size,3,none⟩ (ag a2 (j+1) a3)=Y at*;have dn:=aa aL.out.I;have e6:Hid (Ow Y h (w.heap.size+1) 63 1 (G 4).v j (G 4).xs):=by have:=aL.out.rows.own 4;rw[cQ _ _ (by decide),cQ G _ (by decide),bm.out.n4.1]at this;exact this
     have c5:Y.cell? ⟨w.heap.size,5,none⟩=some (G 4).v:=aL.out.box.cl 5;have gA:=aL.out.box.lt;have fW:=Hh t.size fw;have dF:Hid (ec h (Y.drew.alloc (.cells (eS #[ay false] t.size) 4)) w.heap.size (ag (some ⟨b,off,none⟩) ts.length aJ) (ba (ba (ba G 0 (bY.mk (ag aB (j+1) aG) (j+1) ((G 0).xs++([.map (some (O.heap.size+1))]:List Value)))) 2 (bY.mk (ag a2 (j+1) a3) (j+1) ((G 2).xs++([af ae (-1)]:List Value)))) (5+j) (bY.mk (ag (some ⟨Y.heap.size,0,none⟩) t.size t.size) t.size (dZ (aA t.size false))))):=by refine aL.out.made (5+j) (by omega) (bY.mk (ag (some ⟨Y.heap.size,0,none⟩) t.size t.size) t.size (dZ (aA t.size false))) ((Tu.refl _ _).drew.alloc _) ?_ ⟨Y.heap.size,rfl,kI _⟩;rw[(Lh (5+j) (by omega)).1,(Lh (5+j) (by omega)).2];have q:=CX (B:=w.heap.size+1) dn.out.drew (by simp;omega) #[ay false] t.size 1 4 (by simp[maxLen];omega);rw[j7]at q;rw[Nat.mul_one]at q;unfold dZ;rw[List.map_replicate];exact q
     go_wp2_with fail;refine K6 ?_;refine nE (n:=11) (S:=fun w'=>w'.cell? ⟨w.heap.size,5,none⟩=some (G 4).v) (by kernel_rfl) ?_ (fun cF=> ?_);·go_keep
     simp only[kD,aA,j6,bF,cL,cO,fM]
     iterate 6
      refine iL (v:= ?_) 0 rfl (by kernel_rfl) (fun _ _ _ h=>h) (by rfl) (by assumption) ?_ ?_
      rotate_left
      ·intro w bg;(try dsimp only at bg);simp only[nx];go_simp<;>with_reducible rfl
      simp only[nx,br,eV,dV,dJ,bh,nu,bf]
     refine cE (rs:=[6]) (by kernel_rfl) (by simp) ?_;refine aZ.cons (o:=_) rfl (fun K hK=> ?_) aZ.nil;go_simp;refine hK.out _ _ (fun _=> ?_) ?_;·go_keep
     clear hK K;try simp only[bh,nu,bf]
     refine cE (rs:=[7]) (by kernel_rfl) (by simp) ?_;refine aZ.cons (o:=_) rfl (fun K hK=> ?_) aZ.nil;go_simp;refine hK.out _ _ (fun _=> ?_) ?_;·go_keep
     clear hK K;try simp only[bh,nu,bf]
     refine cE (rs:=[8]) (by kernel_rfl) (by simp) ?_;refine aZ.cons (o:=_) rfl (fun K hK=> ?_) aZ.nil;refine gS EV (by rfl) _ _ (by rfl) (B:=w.heap.size+1) (St.dN ((dn.out.drew.alloc _).alloc _) (by have:=aL.out.box.lt;simp;omega)) _ j (G 4).xs (by rfl) ((e6.out.drew.alloc _).alloc _) ⟨Y.heap.size+1,0,none⟩ 1 1 [ag (some ⟨Y.heap.size,0,none⟩) t.size t.size] (by rfl) (by rfl) (cK _ _ _ _ (by simp)) (cm _ rfl) (by omega) (by omega) ?_;intro ak cg bv fy ek d3 dP;have cV:Tu (fun b=>(G 4).v.ownBlock=some b) (Y.drew.alloc (.cells (eS #[ay false] t.size) 4)) bv:=((Tu.refl _ _).alloc (.cells #[ag (some ⟨Y.heap.size,0,none⟩) t.size t.size] 63)).grown (by exact d3) fun k e=> .inl e
     have PX:Hid (ec h (bv.setCell ⟨w.heap.size,5,none⟩ (ag (some ⟨ak,0,none⟩) (j+1) cg)) w.heap.size (ag (some ⟨b,off,none⟩) ts.length aJ) (ba (ba (ba (ba G 0 (bY.mk (ag aB (j+1) aG) (j+1) ((G 0).xs++([.map (some (O.heap.size+1))]:List Value)))) 2 (bY.mk (ag a2 (j+1) a3) (j+1) ((G 2).xs++([af ae (-1)]:List Value)))) (5+j) ⟨ag (some ⟨Y.heap.size,0,none⟩) t.size t.size,t.size,dZ (aA t.size false)⟩) 4 ⟨ag (some ⟨ak,0,none⟩) (j+1) cg,j+1,(G 4).xs++[ag (some ⟨Y.heap.size,0,none⟩) t.size t.size]⟩)/\Tu (fun b=>b=w.heap.size\/(G 4).v.ownBlock=some b) (Y.drew.alloc (.cells (eS #[ay false] t.size) 4)) (bv.setCell ⟨w.heap.size,5,none⟩ (ag (some ⟨ak,0,none⟩) (j+1) cg))):=by
      have e:ba (ba (ba G 0 (bY.mk (ag aB (j+1) aG) (j+1) ((G 0).xs++([.map (some (O.heap.size+1))]:List Value)))) 2 (bY.mk (ag a2 (j+1) a3) (j+1) ((G 2).xs++([af ae (-1)]:List Value)))) (5+j) ⟨ag (some ⟨Y.heap.size,0,none⟩) t.size t.size,t.size,dZ (aA t.size false)⟩ 4=G 4:=by rw[cQ _ _ (by omega)];rfl
      have q:=dF.out.put 4 (by omega) (bY.mk (ag (some ⟨ak,0,none⟩) (j+1) cg) (j+1) ((G 4).xs++([ag (some ⟨Y.heap.size,0,none⟩) t.size t.size]:List Value))) (by rw[e];exact cV) ek (by rw[e];rcases dP with e|e;exact .inl e;exact .inr ⟨_,e,by simp⟩);rw[e]at q;exact q
     have bZ:=aL.out.behind 4 (((Tu.refl (fun b=>(G 4).v.ownBlock=some b) Y).drew.alloc _).trans cV);have c5:bv.cell? ⟨w.heap.size,5,none⟩=some (G 4).v:=bZ.cl 5;have ff:=bZ.fz 5;have fN:=bZ.lt;clear fy ek d3 dP cV bZ;refine hK.out _ _ (fun _=> ?_) ?_;·exact c5
     clear hK K;try simp only[br,bh,nu,bf]
     refine cE (rs:=[9]) (by kernel_rfl) (by simp) ?_;refine aZ.cons (o:=_) rfl (fun K hK=> ?_) aZ.nil;go_simp;refine hK.out _ _ (fun _=> ?_) ?_;·go_keep
     clear hK K;try simp only[bh,nu,bf]
     refine iL (v:= ?_) 10 rfl (by kernel_rfl) (fun _ _ _ h=>h) (by rfl) (by go_keep) ?_ ?_
     rotate_left
     ·intro w bg;(try dsimp only at bg);simp only[nx];go_simp<;>with_reducible rfl
     simp only[nx,br,eV,dV,dJ,bh,nu,bf];refine cE (rs:=[11]) (by kernel_rfl) (by simp) ?_;refine aZ.cons (o:=_) rfl (fun K hK=> ?_) aZ.nil;go_simp;refine hK.out _ _ (fun h=>absurd h (by decide)) ?_;clear hK K;try simp only[bh,nu,bf]
     refine lK (by kernel_rfl) ?_ _;simp only[NoPanic];have bJ:Hid (Tu (fun b=>b=w.heap.size\/(G 4).v.ownBlock=some b) Y (bv.setCell ⟨w.heap.size,5,none⟩ (ag (some ⟨ak,0,none⟩) (j+1) cg))):=((Tu.refl _ Y).drew.alloc _).trans PX.out.2;have dG:=aa PX.out.1;clear PX c5 ff fN cF;generalize bv.setCell ⟨w.heap.size,5,none⟩ (ag (some ⟨ak,0,none⟩) (j+1) cg)=dE at*;have cG:∀{r:Nat} {l:List (lU×Value)},aS dQ wr r l->aS dQ dE r l:=fun m=>aL.out.map 4 bJ.out (cB.out.map 2 bN.out (a9.out.map 0 bL.out m));have eG:=aa (bm.out.mod dG.out eF.out (fun i ab=>cG (bm.out.maps i ab)) (cG cw.out) ⟨rfl,rfl⟩ ⟨rfl,rfl⟩ ⟨rfl,rfl⟩ ⟨rfl,rfl⟩)
     have cq:=bH.out.trans (bL.out.jR (N:=w.heap.size) bH.out.size fun k e=>by
      rcases e with e|e;·omega
      ·have:=a9.out.hJ 0 e;omega)
     have ct:=cq.trans (bN.out.jR (N:=w.heap.size) cq.size fun k e=>by
      rcases e with e|e;·omega
      ·have:=cB.out.hJ 2 e;omega)
     have eC:=aa (ct.trans (bJ.out.jR (N:=w.heap.size) ct.size fun k e=>by
      rcases e with e|e;·omega
      ·have:=aL.out.hJ 4 e;omega))
     have e2:Hid (∀m∈ms++[O.heap.size+1],m<dE.heap.size):=fun m hm=>by
      have f9:=bL.out.size;have gc:=bN.out.size;have ge:=bJ.out.size;rcases List.mem_append.1 hm with hm|hm;·have:=eJ.out m hm;omega
      ·have:=List.mem_singleton.1 hm;omega
     clear cq ct cG a9 cB aL dF dG bL bN bJ;go_wp2_with fail;go_roundw;case rel=>exact⟨j+1,_,ms++[O.heap.size+1],by omega,by go_num,by rw[di.out];exact eG.out,e2.out,eC.out⟩
     case measure=>simp[intOf];omega
  ·obtain rfl:j=ts.length:=by omega
   rw[cP]at g;have eE:=aa (Hf g bl eN.out fr (by omega));clear g cd bl;go_wp2_with fail;go_ret;exact eE.out
end Go.Proofs.YtdplggpbgommnaaGreatDoor
