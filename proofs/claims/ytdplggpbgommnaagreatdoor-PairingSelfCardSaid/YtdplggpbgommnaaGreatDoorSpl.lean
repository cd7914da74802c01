/- pairing.split. -/
import Derived.Test.YtdplggpbgommnaaGreatDoorG28
open Array renaming replicate→kD
open Go renaming madeCells→eS,wp_region_noPanic→mx
open Go.Act renaming put→br
open Go.IntKind renaming i64→ae
open Go.Lib renaming hid→aa
open Go.Proofs.Tryz renaming prog→ai
open Go.RowKit.Below renaming refl→aD
open Go.Value renaming bool→ay,int→af,slice→ag,string→ah
open Go.Value.agg renaming injEq→oG
open Go.Value.slice renaming injEq→bU
open List renaming getElem?_cons_succ→bQ,getElem?_cons_zero→bc,getElem?_toArray→bw,getElem_cons_succ→dV,getElem_cons_zero→dJ,getElem_mem→aK,getElem_toArray→eV,length_append→cI,length_cons→bF,length_nil→cL,replicate→aA,setIfInBounds_toArray→bh,set_cons_succ→bf,set_cons_zero→be,size_toArray→j6,take_length→cP,take_succ_eq_append_getElem→mc
open List.cons renaming injEq→ii
open Nat renaming le_refl→an,lt_of_lt_of_le→bK,reduceAdd→fM,zero_add→cO,zero_le→aW
open Option.some renaming inj→aU
set_option maxRecDepth 100000
set_option maxHeartbeats 8000000
namespace Go.Proofs.YtdplggpbgommnaaGreatDoor
open Go.RowKit
theorem Ae(h:Hp)(w:World)(Y:ao h w)(v:Value)(ts:List Tree)(ed:hQ h v ts)(d8:ts.length≤1000000)(hz:∀t∈ts,t.size≤1000000)(f0:(aj 0 ts).length≤1000000):Calls ai 23 #[v] w (zV h w ts):=by
 have eL:=aa ed;obtain⟨cs,cY,a8⟩:=ed;obtain⟨a,am,rfl,fh⟩:=cY.shape;have eK:=aa cY;have eF:=aa a8;have eM:=aa hz;have eI:Hid (∀b,w.heap.size≤b→h b=none):=fun b d8=>bI Y b d8
 have dh:Hid (ha h (w.alloc (.cells #[ag a ts.length am,ag none 0 0,ag none 0 0,ag none 0 0,ag none 0 0,ag none 0 0] 62)) w.heap.size (ag a ts.length am) (fun _=>mY) [] ts [] 0):=
  ⟨⟨Y.alloc _,jV.start _ _ _ _ _,Has.new w #[ag a ts.length am,ag none 0 0,ag none 0 0,ag none 0 0,ag none 0 0,ag none 0 0] 62,bI Y _ (an _)⟩,⟨rfl,rfl⟩,rfl,⟨rfl,rfl⟩,⟨rfl,rfl⟩,⟨rfl,rfl⟩,⟨rfl,rfl⟩,fun i Y=>(Nat.not_lt_zero _ Y).elim,fun i _=>rfl,fun i Y=>(Nat.not_lt_zero _ Y).elim⟩
 have B0:Hid (Below w.heap.size w (w.alloc (.cells #[ag a ts.length am,ag none 0 0,ag none 0 0,ag none 0 0,ag none 0 0,ag none 0 0] 62))):=(aD _ _).alloc (an _) _;have f5:= @run_makeMap ai;clear cY a8 Y hz;go_enter Tryz.func23,Tryz.ntmps23;go_wp2_with fail;go_loopw[4,5,6,7,9,15,16,17,18,19,20,21,22,23,24,25,26,27,28,29,30,31,32,33,34,35,36,37,38,39,40,41,42,43,44,45,46,47,48,49,50,51,52,53,54,55,56,57,58,59,60,61,62,63,64,65,66,67,68,69,70,71,72,73,74,75,76,77,78,79,80,81,82,83,84,85,86,87,88,89,90,91] (fun _ _ _ _ _ i _ _ _ _ _ _ _ _ _ _ _ _ _ _ _ _ _ _ _ _ _ _ _ _ _ _ _ _ _ _ _ _ _ _ _ _ _ _ _ _ _ _ _ _ _ _ _ _ _ _ _ _ _ _ _ _ _ _ _ _ _ _ _ _ _ _ _ _ _ _ _ _ _ _ _ _ wr=>∃(j:Nat) (F:Nat→bY) (ms:List Nat),j≤ts.length∧i=af ae j∧ha h wr w.heap.size (ag a ts.length am) F ms ts (aj 0 (ts.take j)) j∧(∀m∈ms,m<wr.heap.size)∧Below w.heap.size w wr) (fun _ _ _ _ _ i _ _ _ _ _ _ _ _ _ _ _ _ _ _ _ _ _ _ _ _ _ _ _ _ _ _ _ _ _ _ _ _ _ _ _ _ _ _ _ _ _ _ _ _ _ _ _ _ _ _ _ _ _ _ _ _ _ _ _ _ _ _ _ _ _ _ _ _ _ _ _ _ _ _ _ _ _=>ts.length-(intOf i).toNat);case atStart=>exact⟨0,fun _=>mY,[],aW _,rfl,dh.out,fun m aG=>(List.not_mem_nil aG).elim,B0.out⟩
 case round=>
  obtain⟨j,F,ms,f2,rfl,g,ce,bl⟩:=hrel;clear dh B0;by_cases hj:j<ts.length
  ·have bC:=g.mem.I;obtain⟨b,bd,cF,cG,cD,ck,rfl,gx,bO,bR,bS,bT,eq⟩:=j9 eK.out eF.out bC j hj;have eD:Hid (ts.getD j default=ts[j]):=getD_at hj;have dj:Hid (aj 0 (ts.take (j+1))=aj 0 (ts.take j)++dt j 1 ts[j].kids):=Hd ts j hj;have eB:=He ts (j+1);rw[dj.out,cI,rZ]at eB;have fn:=eM.out _ (aK hj);obtain⟨fX,fZ,fW,fY,xs,dX,-,-,f3,-,eb,d9⟩:=eq.open;simp only[oG,Array.mk.injEq,ii,bU,and_true,true_and]at dX;obtain⟨⟨rfl,rfl⟩,rfl,rfl⟩:=dX;generalize ts[j]=t at*;generalize aj 0 (ts.take j)=D at*;have e5:=aa eb;have eG:=aa d9;have cl:=t.size_eq;have cw:Below wr.heap.size wr ((wr.alloc (.cells #[af ae t.kind,ah t.text,ag cF t.leads.length cG,ag cD t.kids.length ck] 26)).alloc (.map #[] 0)):=((aD _ _).alloc (an _) _).alloc (by simp) _;have di:=aa (g.below cw);have dq:Hid (aS dQ ((wr.alloc (.cells #[af ae t.kind,ah t.text,ag cF t.leads.length cG,ag cD t.kids.length ck] 26)).alloc (.map #[] 0)) (wr.heap.size+1) []):=by have:=aS.new dQ (wr.alloc (.cells #[af ae t.kind,ah t.text,ag cF t.leads.length cG,ag cD t.kids.length ck] 26));unfold Hid;simpa using this
   have de:=aa (bl.trans (cw.mono bl.size))
   have eZ:Hid (∀i,i<j→ms.getD i 0≠wr.heap.size+1):=fun i Y e=>by
    have aG:i<ms.length:=by rw[g.nm];exact Y
    have:=ce _ (by rw[getD_at aG];exact aK aG:ms.getD i 0∈ms);omega
   have eH:=aa ce;have f6:=bl.size;have f1:=g.mem.box.lt;obtain⟨M,rfl⟩:∃M:World,M=wr:=⟨_,rfl⟩
   have e3:Hid (h (M.heap.size+1)=none):=eI.out _ (by omega);have ge:(0:Int)≤(j:Int):=by omega
   have gh:(j:Int)<(ts.length:Int):=by omega
   have dC:=aa cl;clear g ce bl cw bC eb d9 eq cl;go_wp2_with fail;go_loopw[7,9,24,25,26,27,28,29,30,31,32,33,34,35,36,37,38,39,40,41,42,43,44,45,46,47,48,49,50,51,52,53,54,55,56,57,58,59,60] (fun n _ i _ _ _ _ _ _ _ _ _ _ _ _ _ _ _ _ _ _ _ _ _ _ _ _ _ _ _ _ _ _ _ _ _ _ _ _ co=>∃(z:Nat) (A:Nat→bY),z≤t.kids.length∧n=af ae (1+ax (t.kids.take z):Nat)∧i=af ae z∧ha h co w.heap.size (ag (some ⟨b,bd,none⟩) ts.length am) A ms ts (D++dt j 1 (t.kids.take z)) j∧aS dQ co (M.heap.size+1) (bX (t.kids.take z))∧Below w.heap.size w co∧M.heap.size+1<co.heap.size) (fun _ _ i _ _ _ _ _ _ _ _ _ _ _ _ _ _ _ _ _ _ _ _ _ _ _ _ _ _ _ _ _ _ _ _ _ _ _ _ _=>t.kids.length-(intOf i).toNat);case atStart=>exact⟨0,F,aW _,congrArg (af ae) (by simp[ax]),rfl,by simpa[dt]using di.out,by simpa[bX]using dq.out,de.out,by simp⟩
   case round=>
    obtain⟨z,A,f7,rfl,rfl,g,m,bl,f4⟩:=hrel;clear di dq de;by_cases cf:z<t.kids.length
    ·have bC:=g.mem.I;obtain⟨bk,f8,aM,aO,aL,aN,rfl,gy,e7,a8,e8,bZ,er⟩:=j9 e5.out eG.out bC z cf;have fA:=eY t.kids z cf;have fr:=jK t.kids (z+1);have dp:Hid (D++dt j 1 (t.kids.take (z+1))=(D++dt j 1 (t.kids.take z))++[⟨j,1+ax (t.kids.take z),t.kids[z]⟩]):=by unfold Hid;rw[mc cf,zU,List.append_assoc]
     have e2:Hid (bX (t.kids.take (z+1))=aY (bX (t.kids.take z)) (t.kids[z].kind,t.kids[z].text) (ay true)):=by unfold Hid;rw[mc cf];unfold bX;rw[List.foldl_append];rfl
     have fT:(D++dt j 1 (t.kids.take z)).length+1≤1000001:=by rw[cI,rZ,List.length_take];omega
     generalize t.kids[z]=E at*;have cl:=dC.out;obtain⟨bm,d6⟩:∃q,q=1+ax (t.kids.take z):=⟨_,rfl⟩
     rw[←d6]at dp⊢;obtain⟨e1,d7⟩:∃q,q=1+ax (t.kids.take (z+1)):=⟨_,rfl⟩
     have w2:ae.wrap ((bm:Int)+(E.size:Int))=(e1:Int):=by rw[bA (by omega)];omega
     have kb:E.size≤1000000000:=by omega
     have eJ:=aa d7;clear d6 d7 fA fr cl;generalize D++dt j 1 (t.kids.take z)=ds at*;generalize bX (t.kids.take z)=ej at*;obtain⟨ac,fi,ei,cM⟩:∃ac,(Instr.mapUpdate 97 (.map (some (M.heap.size+1))) (.agg #[af ae E.kind,ah E.text]) (ay true)).run ai (wr.alloc (.cells #[af ae E.kind,ah E.text,ag aM E.leads.length aO,ag aL E.kids.length aN] 26))= .ok () ac∧aS dQ ac (M.heap.size+1) (aY ej (E.kind,E.text) (ay true))∧(wr.alloc (.cells #[af ae E.kind,ah E.text,ag aM E.leads.length aO,ag aL E.kids.length aN] 26)).grownBy ac (some (M.heap.size+1)):=⟨_,aS.put x4 (m.tu ((Tu.refl (fun _=>False) wr).alloc _) id) (E.kind,E.text) (ay true) 97 4 Tryz.underlying97⟩
     have ch:Tu (fun b=>b=M.heap.size+1) wr ac:=((Tu.refl _ _).alloc _).grown cM fun k e=> .inl (aU e).symm;have ep:Tu (fun b=>b=M.heap.size+1) (wr.alloc (.cells #[af ae E.kind,ah E.text,ag aM E.leads.length aO,ag aL E.kids.length aN] 26)) ac:=(Tu.refl _ _).grown cM fun k e=> .inl (aU e).symm;have fj:M.heap.size+1≠w.heap.size:=by omega
     have a3:=aa (g.tu ch fun b e=>by subst e;exact⟨fj,e3.out,fun k=>(g.mem.rows.own k).rY m,fun i Y e=>eZ.out i Y e.symm⟩);have aV:=aa ((Has.new wr #[af ae E.kind,ah E.text,ag aM E.leads.length aO,ag aL E.kids.length aN] 26).tu ep (by omega));have cA:Hid (∀k,(A k).v.ownBlock≠some wr.heap.size):=fun k e=>by have:=g.mem.hJ k e;omega
     have fe:w.heap.size≠wr.heap.size:=by have:=g.mem.box.lt;omega
     have cv:=aa (bl.trans (ch.jR (N:=w.heap.size) bl.size fun k e=>by omega));have ea:M.heap.size+1<ac.heap.size:=by have:=ch.size;omega
     have dr:=aa ei;have dB:=aa er;have ga:(0:Int)≤(z:Int):=by omega
     have gc:(z:Int)<(t.kids.length:Int):=by omega
     clear g m bl bC ch ep cM ei er;go_wp2_with fail;clear fi e7 a8 e8 bZ;generalize wr.heap.size=bV at*;have aT:=aa a3.out.mem;have dk:=aa a3.out.mem.I;have dv:Hid (Ow ac h (w.heap.size+1) 101 6 (A 1).v ds.length (A 1).xs):=by have:=a3.out.mem.rows.own 1;rw[a3.out.n1.1]at this;exact this
     have dG:=aT.out.box.cl 2;have fC:=aT.out.box.lt;have dN:=aV.out.cl 0;have b1:=aV.out.cl 1;have b2:=aV.out.cl 2;have b3:=aV.out.cl 3;simp only[bw,bc,bQ]at dG dN b1 b2 b3;have fR:=aV.out.lt;refine mx ?_;refine nE (n:=13) (S:=fun w'=>w'.cell? ⟨w.heap.size,2,none⟩=some (A 1).v∧w'.cell? ⟨bV,0,none⟩=some (af ae E.kind)∧w'.cell? ⟨bV,1,none⟩=some (ah E.text)∧w'.cell? ⟨bV,2,none⟩=some (ag aM E.leads.length aO)∧w'.cell? ⟨bV,3,none⟩=some (ag aL E.kids.length aN)) (by kernel_rfl) ?_ (fun cN=> ?_);·go_keep
     simp only[kD,aA,j6,bF,cL,cO,fM]
     iterate 9
      refine iL (v:= ?_) 0 rfl (by kernel_rfl) (fun _ _ _ h=>h) (by rfl) (by assumption) ?_ ?_
      rotate_left
      ·intro w a9;(try dsimp only at a9);simp only[nx];go_simp<;>with_reducible rfl
      simp only[nx,br,eV,dV,dJ,bh,be,bf]
     refine cE (rs:=[9]) (by kernel_rfl) (by simp) ?_;refine aZ.cons (o:=_) rfl (fun K G=> ?_) aZ.nil;go_simp;refine G.out _ _ (fun _=> ?_) ?_;·go_keep
     clear G K;try simp only[bh,be,bf]
     refine cE (rs:=[10]) (by kernel_rfl) (by simp) ?_;refine aZ.cons (o:=_) rfl (fun K G=> ?_) aZ.nil;refine gS EY (by rfl) _ _ (by rfl) (B:=w.heap.size+1) (St.dN (dk.out.drew.alloc _) (by have:=aT.out.box.lt;simp;omega)) _ ds.length (A 1).xs (by rfl) (dv.out.drew.alloc _) ⟨ac.heap.size,0,none⟩ 1 1 [af ae j,af ae bm,af ae E.kind,ah E.text,ag aM E.leads.length aO,ag aL E.kids.length aN] (by rfl) (by rfl) (cK _ _ _ _ (by simp)) (cm _ rfl) (by omega) (by omega) ?_;intro ab cg w3 fv el d2 dP;have ci:Tu (fun b=>(A 1).v.ownBlock=some b) ac w3:=(((Tu.refl _ ac).drew).alloc _).grown d2 fun k e=> .inl e;have PX:Hid (ec h (w3.setCell ⟨w.heap.size,2,none⟩ (ag (some ⟨ab,0,none⟩) (ds.length+1) cg)) w.heap.size (ag (some ⟨b,bd,none⟩) ts.length am) (ba A 1 ⟨ag (some ⟨ab,0,none⟩) (ds.length+1) cg,ds.length+1,(A 1).xs++[af ae j,af ae bm,af ae E.kind,ah E.text,ag aM E.leads.length aO,ag aL E.kids.length aN]⟩)∧Tu (fun b=>b=w.heap.size∨(A 1).v.ownBlock=some b) ac (w3.setCell ⟨w.heap.size,2,none⟩ (ag (some ⟨ab,0,none⟩) (ds.length+1) cg))):=by have q:=aT.out.put 1 (by omega) (bY.mk (ag (some ⟨ab,0,none⟩) (ds.length+1) cg) (ds.length+1) ((A 1).xs++([af ae j,af ae bm,af ae E.kind,ah E.text,ag aM E.leads.length aO,ag aL E.kids.length aN]:List Value))) ci el (by rcases dP with e|e;exact .inl e;exact .inr ⟨_,e,by simp⟩);exact q
     have b9:=aT.out.behind 1 ci;have c2:=b9.cl 2;have e':=b9.fz 2;have fE:=b9.lt;have bE:=aV.out.tu ci fun e=>cA.out 1 e;have bO:=bE.cl 0;have bR:=bE.cl 1;have bS:=bE.cl 2;have bT:=bE.cl 3;simp only[bw,bc,bQ]at c2 bO bR bS bT;clear fv el d2 dP ci b9 bE;refine G.out _ _ (fun _=> ?_) ?_;·exact⟨c2,bO,bR,bS,bT⟩
     clear G K;try simp only[br,bh,be,bf]
     refine cE (rs:=[11]) (by kernel_rfl) (by simp) ?_;refine aZ.cons (o:=_) rfl (fun K G=> ?_) aZ.nil;go_simp;refine G.out _ _ (fun _=> ?_) ?_;·go_keep
     clear G K;try simp only[bh,be,bf]
     refine iL (v:= ?_) 12 rfl (by kernel_rfl) (fun _ _ _ h=>h) (by rfl) (by go_keep) ?_ ?_
     rotate_left
     ·intro w a9;(try dsimp only at a9);simp only[nx];go_simp<;>with_reducible rfl
     simp only[nx,br,eV,dV,dJ,bh,be,bf];refine cE (rs:=[13]) (by kernel_rfl) (by simp) ?_;refine aZ.cons (o:=_) rfl (fun K G=> ?_) aZ.nil;go_simp;refine G.out _ _ (fun h=>absurd h (by decide)) ?_;clear G K;try simp only[bh,be,bf]
     refine lK (by kernel_rfl) ?_ _;simp only[NoPanic];have aJ:=aa PX.out.1;have bz:=aa PX.out.2;clear PX;generalize w3.setCell ⟨w.heap.size,2,none⟩ (ag (some ⟨ab,0,none⟩) (ds.length+1) cg)=aQ at*;have eN:=aa aJ.out.I
     have e6:=aa (aV.out.tu bz.out fun e=>by
      rcases e with e|e;·exact fe e.symm
      ·exact cA.out 1 e)
     have eP:=aa (aT.out.map 1 bz.out dr.out);have eW:Hid (∀i,i<j→aS dQ aQ (ms.getD i 0) (bX (ts.getD i default).kids)):=fun i Y=>aT.out.map 1 bz.out (a3.out.maps i Y)
     have dg:=aa (cv.out.trans (bz.out.jR (N:=w.heap.size) cv.out.size fun k e=>by
      rcases e with e|e;·omega
      ·have:=aT.out.hJ 1 e;omega))
     have ff:M.heap.size+1<aQ.heap.size:=bK ea bz.out.size;have dA:Hid (Ow aQ h (w.heap.size+1) 3 1 (A 3).v ds.length (A 3).xs):=by have:=aJ.out.rows.own 3;rw[cQ A _ (by decide),a3.out.n3.1]at this;exact this
     have c4:aQ.cell? ⟨w.heap.size,4,none⟩=some (A 3).v:=aJ.out.box.cl 4;have gq:=aJ.out.box.lt;clear dG dN b1 b2 b3 c2 bO bR bS bT e' fE fR fC cN aV dv dk dr cv ea;go_wp2_with(at_builtin;refine ft fP rfl _ _ rfl (St.dN (B:=w.heap.size+1) (eN.out.alloc _) (by simp;omega)) _ ds.length (A 3).xs rfl (dA.out.alloc _) ⟨aQ.heap.size,0,none⟩ 1 1 [af ae (-1)] rfl rfl (cK _ _ _ _ (by simp)) (cm _ rfl) (by omega) ?_;intro gi c9 fw cU d3 dR;obtain⟨bN,c5,rfl⟩:=cU.shape;have cj:Tu (fun b=>(A 3).v.ownBlock=some b) aQ c9:=((Tu.refl _ aQ).alloc _).grown d3 (fun k e=> .inl e);have em:=aJ.out.put 3 (by omega) (bY.mk (ag bN (ds.length+1) c5) (ds.length+1) ((A 3).xs++([af ae (-1)]:List Value))) cj cU (by rcases dR with e|e;exact .inl e;exact .inr ⟨_,e,by simp⟩);have a4:Hid (ec h (c9.setCell ⟨w.heap.size,4,none⟩ (ag bN (ds.length+1) c5)) w.heap.size (ag (some ⟨b,bd,none⟩) ts.length am) (ba (ba A 1 (bY.mk (ag (some ⟨ab,0,none⟩) (ds.length+1) cg) (ds.length+1) ((A 1).xs++([af ae j,af ae bm,af ae E.kind,ah E.text,ag aM E.leads.length aO,ag aL E.kids.length aN]:List Value)))) 3 (bY.mk (ag bN (ds.length+1) c5) (ds.length+1) ((A 3).xs++([af ae (-1)]:List Value))))∧Tu (fun b=>b=w.heap.size∨(A 3).v.ownBlock=some b) aQ (c9.setCell ⟨w.heap.size,4,none⟩ (ag bN (ds.length+1) c5))):=(by exact em);have cc:=aJ.out.behind 3 cj;have dW:=cc.cl 4;have fb:=cc.fz 4;have fF:=cc.lt;have bv:=e6.out.tu cj (fun e=>cA.out 3 e);have es:=bv.cl 0;have ex:=bv.cl 1;have ey:=bv.cl 2;have ez:=bv.cl 3;simp only[bw,bc,bQ]at dW es ex ey ez;have fS:=bv.lt;clear fw cU d3 dR cj em cc bv dA);refine(nK E.size h _ (by exact a4.out.1.I) _ E (by exact dB.out) (an _) kb).mono ?_;rintro e db ⟨rfl,bp⟩;have a5:=aa (a4.out.1.below bp);have cz:Hid (aS dQ db (M.heap.size+1) (aY ej (E.kind,E.text) (ay true))):=(aJ.out.map 3 a4.out.2 eP.out).tu ((Tu.refl (fun _=>False) _).below bp) id;have eX:Hid (∀i,i<j→aS dQ db (ms.getD i 0) (bX (ts.getD i default).kids)):=fun i Y=>(aJ.out.map 3 a4.out.2 (eW.out i Y)).tu ((Tu.refl (fun _=>False) _).below bp) id
     have cq:=dg.out.trans (a4.out.2.jR (N:=w.heap.size) dg.out.size fun k e=>by
      rcases e with e|e;·omega
      ·have:=aJ.out.hJ 3 e;omega)
     have bG:=aa (cq.trans (bp.mono cq.size));have fg:M.heap.size+1<db.heap.size:=bK ff (Nat.le_trans a4.out.2.size bp.size);have bg:=aa (a3.out.def (d:=⟨j,bm,E⟩) a5.out eX.out rfl rfl ⟨_,rfl,Hg dB.out⟩ rfl rfl);clear a4 bp cq dW fb fF es ex ey ez fS c4;go_wp2_with fail;go_roundw;case rel=>exact⟨z+1,_,by omega,congrArg (af ae) (by rw[eJ.out]),by go_num,by rw[dp.out];exact bg.out,by rw[e2.out];exact cz.out,bG.out,fg⟩
     case measure=>simp[intOf];omega
    ·obtain rfl:z=t.kids.length:=by omega
     rw[cP]at g m⊢;have dY:1+ax t.kids=t.size:=by rw[dC.out];omega
     rw[dY];have bg:=aa g;have cz:=aa m;have bG:=aa bl;have a5:=aa g.mem;have eO:=aa g.mem.I;have du:Hid (Ow wr h (w.heap.size+1) 97 1 (A 0).v j (A 0).xs):=by have:=g.mem.rows.own 0;rw[g.n0.1]at this;exact this
     have c1:wr.cell? ⟨w.heap.size,1,none⟩=some (A 0).v:=g.mem.box.cl 1;have gp:=g.mem.box.lt;clear g m bl dY
     go_wp2_with(at_builtin;first
      |(refine ft EZ rfl _ _ rfl (St.dN (B:=w.heap.size+1) (eO.out.alloc _) (by simp;omega)) _ j (A 0).xs rfl (du.out.alloc _) ⟨wr.heap.size,0,none⟩ 1 1 [.map (some (M.heap.size+1))] rfl rfl (cK _ _ _ _ (by simp)) (cm _ rfl) (by omega) ?_;intro gk a2 fx cV d4 dT;obtain⟨ad,ak,rfl⟩:=cV.shape;have c6:Tu (fun b=>(A 0).v.ownBlock=some b) wr a2:=((Tu.refl _ wr).alloc _).grown d4 (fun k e=> .inl e);have en:=a5.out.put 0 (by omega) (bY.mk (ag ad (j+1) ak) (j+1) ((A 0).xs++([.map (some (M.heap.size+1))]:List Value))) c6 cV (by rcases dT with e|e;exact .inl e;exact .inr ⟨_,e,by simp⟩);have aP:Hid (ec h (a2.setCell ⟨w.heap.size,1,none⟩ (ag ad (j+1) ak)) w.heap.size (ag (some ⟨b,bd,none⟩) ts.length am) (ba A 0 (bY.mk (ag ad (j+1) ak) (j+1) ((A 0).xs++([.map (some (M.heap.size+1))]:List Value))))∧Tu (fun b=>b=w.heap.size∨(A 0).v.ownBlock=some b) wr (a2.setCell ⟨w.heap.size,1,none⟩ (ag ad (j+1) ak))):=(by exact en);have bB:=a5.out.behind 0 c6;have a8:=bB.cl 1;have bZ:=bB.cl 3;have e9:=bB.fz 1;have fG:=bB.lt;simp only[bw,bc,bQ]at a8 bZ;have dm:=aa aP.out.1.I;have fB:=aP.out.1.box.lt;have dw:Hid (Ow (a2.setCell ⟨w.heap.size,1,none⟩ (ag ad (j+1) ak)) h (w.heap.size+1) 3 1 (A 2).v j (A 2).xs):=(by have:=aP.out.1.rows.own 2;rw[cQ A _ (by decide),bg.out.n2.1]at this;exact this);clear fx cV d4 dT c6 en bB du)
      |(go_must(refine ft fP rfl _ _ rfl (St.dN (B:=w.heap.size+1) (dm.out.alloc _) (by simp;omega)) _ j (A 2).xs rfl (dw.out.alloc _) ⟨a2.heap.size,0,none⟩ 1 1 [af ae (-1)] rfl rfl (cK _ _ _ _ (by simp[World.setCell])) (cm _ rfl) (by omega) ?_);intro gm cn fy cX d5 dU;obtain⟨aX,a1,rfl⟩:=cX.shape;have c8:Tu (fun b=>(A 2).v.ownBlock=some b) (a2.setCell ⟨w.heap.size,1,none⟩ (ag ad (j+1) ak)) cn:=((Tu.refl _ _).alloc _).grown d5 (fun k e=> .inl e);have eo:=aP.out.1.put 2 (by omega) (bY.mk (ag aX (j+1) a1) (j+1) ((A 2).xs++([af ae (-1)]:List Value))) c8 cX (by rcases dU with e|e;exact .inl e;exact .inr ⟨_,e,by simp⟩);have cB:Hid (ec h (cn.setCell ⟨w.heap.size,3,none⟩ (ag aX (j+1) a1)) w.heap.size (ag (some ⟨b,bd,none⟩) ts.length am) (ba (ba A 0 (bY.mk (ag ad (j+1) ak) (j+1) ((A 0).xs++([.map (some (M.heap.size+1))]:List Value)))) 2 (bY.mk (ag aX (j+1) a1) (j+1) ((A 2).xs++([af ae (-1)]:List Value))))∧Tu (fun b=>b=w.heap.size∨(A 2).v.ownBlock=some b) (a2.setCell ⟨w.heap.size,1,none⟩ (ag ad (j+1) ak)) (cn.setCell ⟨w.heap.size,3,none⟩ (ag aX (j+1) a1))):=(by exact eo);have cd:=aP.out.1.behind 2 c8;have d0:=cd.cl 3;have fd:=cd.fz 3;have fQ:=cd.lt;simp only[bw,bc,bQ]at d0;clear fy cX d5 dU c8 eo cd dw))
     have cC:=aa aP.out.1;have bJ:=aa aP.out.2;have aB:=aa cB.out.1;have bL:=aa cB.out.2;clear aP cB a8 bZ e9 fG d0 fd fQ dm fB;generalize a2.setCell ⟨w.heap.size,1,none⟩ (ag ad (j+1) ak)=fV at*;generalize cn.setCell ⟨w.heap.size,3,none⟩ (ag aX (j+1) a1)=O at*;have dn:=aa aB.out.I;have e4:Hid (Ow O h (w.heap.size+1) 63 1 (A 4).v j (A 4).xs):=by have:=aB.out.rows.own 4;rw[cQ _ _ (by decide),cQ A _ (by decide),bg.out.n4.1]at this;exact this
     have c5:O.cell? ⟨w.heap.size,5,none⟩=some (A 4).v:=aB.out.box.cl 5;have gw:=aB.out.box.lt;have fU:=Hh t.size fn;have dE:Hid (ec h (O.drew.alloc (.cells (eS #[ay false] t.size) 4)) w.heap.size (ag (some ⟨b,bd,none⟩) ts.length am) (ba (ba (ba A 0 (bY.mk (ag ad (j+1) ak) (j+1) ((A 0).xs++([.map (some (M.heap.size+1))]:List Value)))) 2 (bY.mk (ag aX (j+1) a1) (j+1) ((A 2).xs++([af ae (-1)]:List Value)))) (5+j) (bY.mk (ag (some ⟨O.heap.size,0,none⟩) t.size t.size) t.size (dZ (aA t.size false))))):=by refine aB.out.made (5+j) (by omega) (bY.mk (ag (some ⟨O.heap.size,0,none⟩) t.size t.size) t.size (dZ (aA t.size false))) ((Tu.refl _ _).drew.alloc _) ?_ ⟨O.heap.size,rfl,an _⟩;rw[(r1 (5+j) (by omega)).1,(r1 (5+j) (by omega)).2];have q:=CX (B:=w.heap.size+1) dn.out.drew (by simp;omega) #[ay false] t.size 1 4 (by simp[maxLen];omega);rw[j7]at q;rw[Nat.mul_one]at q;unfold dZ;rw[List.map_replicate];exact q
     go_wp2_with fail;refine mx ?_;refine nE (n:=11) (S:=fun w'=>w'.cell? ⟨w.heap.size,5,none⟩=some (A 4).v) (by kernel_rfl) ?_ (fun cN=> ?_);·go_keep
     simp only[kD,aA,j6,bF,cL,cO,fM]
     iterate 6
      refine iL (v:= ?_) 0 rfl (by kernel_rfl) (fun _ _ _ h=>h) (by rfl) (by assumption) ?_ ?_
      rotate_left
      ·intro w a9;(try dsimp only at a9);simp only[nx];go_simp<;>with_reducible rfl
      simp only[nx,br,eV,dV,dJ,bh,be,bf]
     refine cE (rs:=[6]) (by kernel_rfl) (by simp) ?_;refine aZ.cons (o:=_) rfl (fun K G=> ?_) aZ.nil;go_simp;refine G.out _ _ (fun _=> ?_) ?_;·go_keep
     clear G K;try simp only[bh,be,bf]
     refine cE (rs:=[7]) (by kernel_rfl) (by simp) ?_;refine aZ.cons (o:=_) rfl (fun K G=> ?_) aZ.nil;go_simp;refine G.out _ _ (fun _=> ?_) ?_;·go_keep
     clear G K;try simp only[bh,be,bf]
     refine cE (rs:=[8]) (by kernel_rfl) (by simp) ?_;refine aZ.cons (o:=_) rfl (fun K G=> ?_) aZ.nil;refine gS EV (by rfl) _ _ (by rfl) (B:=w.heap.size+1) (St.dN ((dn.out.drew.alloc _).alloc _) (by have:=aB.out.box.lt;simp;omega)) _ j (A 4).xs (by rfl) ((e4.out.drew.alloc _).alloc _) ⟨O.heap.size+1,0,none⟩ 1 1 [ag (some ⟨O.heap.size,0,none⟩) t.size t.size] (by rfl) (by rfl) (cK _ _ _ _ (by simp)) (cm _ rfl) (by omega) (by omega) ?_;intro ab cg bq fu ek d1 dO;have cZ:Tu (fun b=>(A 4).v.ownBlock=some b) (O.drew.alloc (.cells (eS #[ay false] t.size) 4)) bq:=((Tu.refl _ _).alloc (.cells #[ag (some ⟨O.heap.size,0,none⟩) t.size t.size] 63)).grown (by exact d1) fun k e=> .inl e
     have PX:Hid (ec h (bq.setCell ⟨w.heap.size,5,none⟩ (ag (some ⟨ab,0,none⟩) (j+1) cg)) w.heap.size (ag (some ⟨b,bd,none⟩) ts.length am) (ba (ba (ba (ba A 0 (bY.mk (ag ad (j+1) ak) (j+1) ((A 0).xs++([.map (some (M.heap.size+1))]:List Value)))) 2 (bY.mk (ag aX (j+1) a1) (j+1) ((A 2).xs++([af ae (-1)]:List Value)))) (5+j) ⟨ag (some ⟨O.heap.size,0,none⟩) t.size t.size,t.size,dZ (aA t.size false)⟩) 4 ⟨ag (some ⟨ab,0,none⟩) (j+1) cg,j+1,(A 4).xs++[ag (some ⟨O.heap.size,0,none⟩) t.size t.size]⟩)∧Tu (fun b=>b=w.heap.size∨(A 4).v.ownBlock=some b) (O.drew.alloc (.cells (eS #[ay false] t.size) 4)) (bq.setCell ⟨w.heap.size,5,none⟩ (ag (some ⟨ab,0,none⟩) (j+1) cg))):=by
      have e:ba (ba (ba A 0 (bY.mk (ag ad (j+1) ak) (j+1) ((A 0).xs++([.map (some (M.heap.size+1))]:List Value)))) 2 (bY.mk (ag aX (j+1) a1) (j+1) ((A 2).xs++([af ae (-1)]:List Value)))) (5+j) ⟨ag (some ⟨O.heap.size,0,none⟩) t.size t.size,t.size,dZ (aA t.size false)⟩ 4=A 4:=by rw[cQ _ _ (by omega)];rfl
      have q:=dE.out.put 4 (by omega) (bY.mk (ag (some ⟨ab,0,none⟩) (j+1) cg) (j+1) ((A 4).xs++([ag (some ⟨O.heap.size,0,none⟩) t.size t.size]:List Value))) (by rw[e];exact cZ) ek (by rw[e];rcases dO with e|e;exact .inl e;exact .inr ⟨_,e,by simp⟩);rw[e]at q;exact q
     have b0:=aB.out.behind 4 (((Tu.refl (fun b=>(A 4).v.ownBlock=some b) O).drew.alloc _).trans cZ);have c5:bq.cell? ⟨w.heap.size,5,none⟩=some (A 4).v:=b0.cl 5;have fc:=b0.fz 5;have fD:=b0.lt;clear fu ek d1 dO cZ b0;refine G.out _ _ (fun _=> ?_) ?_;·exact c5
     clear G K;try simp only[br,bh,be,bf]
     refine cE (rs:=[9]) (by kernel_rfl) (by simp) ?_;refine aZ.cons (o:=_) rfl (fun K G=> ?_) aZ.nil;go_simp;refine G.out _ _ (fun _=> ?_) ?_;·go_keep
     clear G K;try simp only[bh,be,bf]
     refine iL (v:= ?_) 10 rfl (by kernel_rfl) (fun _ _ _ h=>h) (by rfl) (by go_keep) ?_ ?_
     rotate_left
     ·intro w a9;(try dsimp only at a9);simp only[nx];go_simp<;>with_reducible rfl
     simp only[nx,br,eV,dV,dJ,bh,be,bf];refine cE (rs:=[11]) (by kernel_rfl) (by simp) ?_;refine aZ.cons (o:=_) rfl (fun K G=> ?_) aZ.nil;go_simp;refine G.out _ _ (fun h=>absurd h (by decide)) ?_;clear G K;try simp only[bh,be,bf]
     refine lK (by kernel_rfl) ?_ _;simp only[NoPanic];have bH:Hid (Tu (fun b=>b=w.heap.size∨(A 4).v.ownBlock=some b) O (bq.setCell ⟨w.heap.size,5,none⟩ (ag (some ⟨ab,0,none⟩) (j+1) cg))):=((Tu.refl _ O).drew.alloc _).trans PX.out.2;have dF:=aa PX.out.1;clear PX c5 fc fD cN;generalize bq.setCell ⟨w.heap.size,5,none⟩ (ag (some ⟨ab,0,none⟩) (j+1) cg)=dD at*;have cS:∀{r:Nat} {l:List (lU×Value)},aS dQ wr r l→aS dQ dD r l:=fun m=>aB.out.map 4 bH.out (cC.out.map 2 bL.out (a5.out.map 0 bJ.out m));have eE:=aa (bg.out.mod dF.out eD.out (fun i Y=>cS (bg.out.maps i Y)) (cS cz.out) ⟨rfl,rfl⟩ ⟨rfl,rfl⟩ ⟨rfl,rfl⟩ ⟨rfl,rfl⟩)
     have ct:=bG.out.trans (bJ.out.jR (N:=w.heap.size) bG.out.size fun k e=>by
      rcases e with e|e;·omega
      ·have:=a5.out.hJ 0 e;omega)
     have cu:=ct.trans (bL.out.jR (N:=w.heap.size) ct.size fun k e=>by
      rcases e with e|e;·omega
      ·have:=cC.out.hJ 2 e;omega)
     have eA:=aa (cu.trans (bH.out.jR (N:=w.heap.size) cu.size fun k e=>by
      rcases e with e|e;·omega
      ·have:=aB.out.hJ 4 e;omega))
     have e0:Hid (∀m∈ms++[M.heap.size+1],m<dD.heap.size):=fun m aG=>by
      have q1:=bJ.out.size;have f9:=bL.out.size;have f':=bH.out.size;rcases List.mem_append.1 aG with aG|aG;·have:=eH.out m aG;omega
      ·have:=List.mem_singleton.1 aG;omega
     clear ct cu cS a5 cC aB dE dF bJ bL bH;go_wp2_with fail;go_roundw;case rel=>exact⟨j+1,_,ms++[M.heap.size+1],by omega,by go_num,by rw[dj.out];exact eE.out,e0.out,eA.out⟩
     case measure=>simp[intOf];omega
  ·obtain rfl:j=ts.length:=by omega
   rw[cP]at g;have eC:=aa (Hf g bl eL.out fh (by omega));clear g ce bl;go_wp2_with fail;go_ret;exact eC.out
end Go.Proofs.YtdplggpbgommnaaGreatDoor
