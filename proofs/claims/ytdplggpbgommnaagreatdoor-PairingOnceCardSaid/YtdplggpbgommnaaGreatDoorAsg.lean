/- pairing.assigned: what is not paired yet is paired by an assignment of least cost. -/
import Derived.Test.YtdplggpbgommnaaGreatDoorG12
import Derived.Test.YtdplggpbgommnaaGreatDoorG13
open Go renaming results_none->j0,wpStill_nil->ig,wp_region_still_tail->ic
open Go.Addr.mk renaming injEq->cx
open Go.IntKind renaming i64->ae
open Go.Lib renaming hid->aa
open Go.Proofs.Tryz renaming prog->ai
open Go.Value renaming int->af,ownBlock->bW,slice->ag
open Go.Value.slice renaming injEq->bU
open Go.World renaming drew->q1
open List renaming drop_succ_cons->gj,drop_zero->BU,eq_nil_of_length_eq_zero->kA,getD_eq_getElem?_getD->bb,getElem?_eq_getElem->aE,getElem_mem->aK,map_set->hL,mem_map->b6,mem_range->ee,range->aw,take_succ_cons->fl,take_zero->ie
open Nat renaming lt_of_lt_of_le->bK,zero_le->aW
open Option.some renaming injEq->aC
set_option maxRecDepth 100000
set_option maxHeartbeats 8000000
namespace Go.Proofs.YtdplggpbgommnaaGreatDoor
open Go.RowKit
def nB(x:Int)(W:World)(e:Ending)(W':World):Prop:=e= .returned (af ae x)/\Below W.heap.size W W'
theorem wl(l:List Int):(dp l).length<=l.length:=by have:=List.length_filter_le (fun i=>decide (l.getD i 0<0)) (aw l.length);simpa[dp]using this
theorem qJ{l:List Int}{i:Nat}(h:i∈dp l):i<l.length:=by unfold dp at h;exact ee.1 (List.mem_filter.1 h).1
theorem pD(l:List Nat)(k:Nat)(G:k<l.length):(l.flatMap iH)[k]? =some (af ae (l[k]:Nat)):=by
 have:l.flatMap iH=l.map fun i=>af ae (i:Nat):=by
  clear G;induction l with
  |nil=>rfl
  |cons a l J=>rw[List.flatMap_cons,List.map_cons,J];rfl
 rw[this,List.getElem?_map,aE G];rfl
theorem cell_far{w:World}{p q:Addr}{x:Option Value}{v:Value}(h:q.block≠p.block)(e:w.cell? q=x):(w.setCell p v).cell? q=x:=(World.cell?_of_block (a:=q) (Below.heap_setCell _ _ _ _ h)).trans e
theorem Sl.sX{h:Hp}{a:Option Addr}{n m G k:Nat}{cs:List Value}(hs:Sl h (ag a m G) n k cs){w w':World}(O:ao h w)(Y:ao h w')(hn:0<n):∃b off,a=some ⟨b,off,none⟩/\b<w.heap.size/\∀i v,cs[i]? =some v->w'.cell? ⟨b,off+i,none⟩=some v:=by obtain⟨b,off,rfl,J,-⟩:=hs.cells O hn;obtain⟨b',ab,e,-,hc⟩:=hs.cells Y hn;simp only[aC,cx,and_true]at e;obtain⟨rfl,rfl⟩:=e;exact⟨b,off,rfl,J,hc⟩
theorem eW.sY{h:Hp}{w:World}{m n:Nat}{F:Nat->Nat->Int}{G i:Nat}{J:Hp}{hs:List Value}{g j:Nat}{wr w':World}(r:eW h w m n F G i J hs g j wr)(b:Below wr.heap.size wr w'):eW h w m n F G i J hs g j w':=
 ⟨r.st.same b,r.own.same b,r.row.same b,r.ne,r.enc,r.len⟩
theorem Sl.cells3{h:Hp}{a:Option Addr}{n m O k:Nat}{cs:List Value}(hs:Sl h (ag a m O) n k cs){w:World}(aj:ao h w)(hn:0<n):∃b off,a=some ⟨b,off,none⟩/\b<w.heap.size/\h b≠none/\∀i v,cs[i]? =some v->w.cell? ⟨b,off+i,none⟩=some v:=by
 obtain⟨b,off,rfl,Y,hc⟩:=hs.cells aj hn;refine⟨b,off,rfl,Y,?_,hc⟩;obtain⟨a',ak,e,_,_,J⟩:=hs;simp only[bU]at e;rcases J with J|⟨b',am,c,G,ab,_⟩;·omega
 ·rw[<-e.1]at G;simp only[aC,cx,and_true]at G;rw[G.1,ab];simp
theorem wm(h:Hp)(w:World)(ab:ao h w){B:Nat}(_hB:B<=w.heap.size)(bp bm:Value)(J new:List Int)(aM:Ow w h B 3 1 bp J.length (aV J))(on:Ow w h B 3 1 bm new.length (aV new))(ap:cj bp bm)(eH:J.length<=1000000)(eG:new.length<=1000000)(cn co cm:Nat)(d4:Value)(dw ca:Array Value)(ez:∀args w,(callFunc cn args).run ai w= .ok (.enter cn args) w)(eA:∀args w,(callFunc co args).run ai w= .ok (.enter co args) w)(cY:∀args w,(callFunc cm args).run ai w= .ok (.enter cm args) w)(bv:World->Prop)(g0:bv w)(dO:∀W dv,bv W->Below w.heap.size W dv->bv dv)(cost:Nat->Nat->Int)(drop add:Nat->Int)(hc:∀i j:Nat,i<J.length->j<new.length->(0<=cost i j/\cost i j<=1048576)/\∀W,bv W->Calls ai cn (#[d4]++ #[af ae i,af ae j]) W (nB (cost i j) W))(hd:∀i:Nat,i<J.length->(0<=drop i/\drop i<=1048576)/\∀W,bv W->Calls ai co (#[af ae i]++dw) W (nB (drop i) W))(ha:∀i:Nat,i<new.length->(0<=add i/\add i<=1048576)/\∀W,bv W->Calls ai cm (#[af ae i]++ca) W (nB (add i) W)):Calls ai 54 #[bp,bm,.func (.func cn) #[d4] #[],.func (.func co) #[] dw,.func (.func cm) #[] ca] w fun e w'=>e= .returned (.tuple #[])/\Ow w' h B 3 1 bp J.length (aV (eX J new cost drop add).1)/\Ow w' h B 3 1 bm new.length (aV (eX J new cost drop add).2)/\Tu (fun k=>bp.ownBlock=some k\/bm.ownBlock=some k) w w':=by
 have cD:=aa ab;have cU:=aa aM;have cS:=aa on;have cM:Hid (∀g,bp.ownBlock=some g->g<w.heap.size):=fun g G=>(aM.lt g G).2;have cK:Hid (∀g,bm.ownBlock=some g->g<w.heap.size):=fun g G=>(on.lt g G).2;have cB:Hid (∀g,bp.ownBlock=some g->h g=none):=fun g G=>aM.free g G;have cA:Hid (∀g,bm.ownBlock=some g->h g=none):=fun g G=>on.free g G;have b0:=aa hc;have b9:=aa hd;have bZ:=aa ha;have ed:=aa dO;have eb:=aa g0;have d9:=aa ap;obtain⟨bI,bN,rfl⟩:=aM.shape;obtain⟨an,bL,rfl⟩:=on.shape;clear ab aM on hc hd ha dO g0 ap;have a1:Hid (eX J new cost drop add=if 40<(dp J).length+(dp new).length then(J,new)else nC (dp J) (dp new) (gp (dp J) (dp new) cost drop add) (mA (gp (dp J) (dp new) cost drop add)) J new):=rfl;have eY:=wl J;have eZ:=wl new;have cN:Hid (∀i∈dp J,i<J.length):=fun i ab=>qJ ab;have bE:Hid (∀i∈dp new,i<new.length):=fun i ab=>qJ ab;generalize eX J new cost drop add=eK at*;go_in;go_wp2_with fail;refine(wo h _ cD.out _ J cU.out eH).mono ?_;rintro e w1 ⟨va,rfl,oa,b1⟩;have dr:=aa oa;have a5:=aa b1;clear oa b1;go_wp2_with fail;refine(wo h w1 (cD.out.below a5.out) _ new (cS.out.same a5.out) eG).mono ?_;rintro e w2 ⟨vb,rfl,aX,b2⟩;have d1:ao h w2:=(cD.out.below a5.out).below b2;have bl:Below w.heap.size w w2:=a5.out.trans (b2.mono a5.out.size);have bG:=(dr.out.same b2).sl (by omega);have bH:=(aX.base a5.out.size).sl (by omega);have cf:Hid (ao (h.fr w.heap.size w2) w2):=d1.fr;have cc:Hid (∀b,b<w.heap.size->(h.fr w.heap.size w2) b=h b):=fun b eC=>by unfold Hp.fr;rw[if_pos eC]
 have aN:=aa bl;have a9:=aa (cU.out.same bl);have a8:=aa (cS.out.same bl);clear aX b2 d1 bl dr a5 cU cS;generalize h.fr w.heap.size w2=h1 at*;generalize dp J=a at*;generalize dp new=b at*;obtain⟨e0,e5,rfl,-⟩:=bG.shape;obtain⟨e1,e6,rfl,-⟩:=bH.shape;have cG:=aa bG;have ce:=aa bH;clear bG bH;by_cases fd:(40:Int)<(a.length:Int)+(b.length:Int);·go_wp2_with fail;refine bodyPost_ret (v:= .tuple #[]) (j0 rfl _ _ _) rfl ?_;rw[a1.out,if_pos (by omega)];exact⟨rfl,a9.out,a8.out,(Tu.refl _ _).below aN.out⟩
 ·have bY:Hid (∀i j,i<a.length+b.length->j<a.length+b.length->0<=lG a b cost drop add i j/\lG a b cost drop add i j<=1048576):=fun i j ab hj=>by
   unfold lG;split
   ·rename_i h1;have bd:=cN.out _ (aK h1);rw[bb,aE h1];split;·rename_i h2;have aT:=bE.out _ (aK h2);rw[bb,aE h2];exact(b0.out _ _ bd aT).1
    ·exact(b9.out _ bd).1
   ·split;·rename_i h2;have aT:=bE.out _ (aK h2);rw[bb,aE h2];exact(bZ.out _ aT).1
    ·omega
  rw[if_neg (by omega)]at a1;have w1:ae.wrap ((a.length:Int)+(b.length:Int))=((a.length+b.length:Nat):Int):=by rw[bA (by omega)];omega
  generalize ct:a.length+b.length=N at*;have ff:N<=40:=by omega
  go_wp2_with(at_make;refine jk sZ rfl _ _ rfl (St.refl cf.out) ae ae _ _ N rfl rfl (by go_num) (by go_num) (by omega) ?_;intro w3 bg cv dG;rw[j7]at cv);rcases Nat.eq_zero_or_pos N with rfl|fr
  ·have cg:=aa bg.I;have bX:=aa (aN.out.trans (bg.below.mono aN.out.size));have ci:=aa (a9.out.same bg.below);have ch:=aa (a8.out.same bg.below);obtain⟨s,bz,-⟩:=wq [];have cF:=aa bz;have cY:a.length=0:=by omega
   have ey:b.length=0:=by omega
   rw[kA cY,kA ey]at a1;have ea:Hid (eK=(J,new)):=a1.out;clear bg cv dG bz bY a1 b0 b9 bZ a9 a8;rw[show((0:Nat):Int)=0 from rfl];go_wp2_with fail;refine wp_loop_rounds 1 ?_;rw[rounds_succ];go_wp2_with fail;refine(wu h1 _ cg.out _ [] ⟨[],Sl.nil _ _ _ _,rfl⟩ rfl s cF.out (fun i ab=>by simp at ab)).mono ?_;rintro e bV ⟨gu,gv,gt,k,rfl,O,-⟩;have am:=aa O;clear O;simp only[List.length_nil];go_wp2_with fail;refine wp_loop_rounds 1 ?_;rw[rounds_succ];go_wp2_with fail;refine bodyPost_end (j0 rfl _ _ _) rfl ?_;rw[ea.out];exact⟨rfl,(ci.out.same am.out).alloc _,(ch.out.same am.out).alloc _,(((Tu.refl _ w).below bX.out).below am.out).alloc _⟩
  ·obtain⟨M,rfl⟩:∃M,N=M+1:=⟨N-1,by omega⟩
   rw[show((M+1:Nat):Int)=(M:Int)+1 from by omega]at w1⊢;have dN:gp a b cost drop add=(aw (M+1)).map fun i=>(aw (M+1)).map (lG a b cost drop add i):=by unfold gp;rw[ct]
   have ej:Hid (lH h1 w2 M M (lG a b cost drop add) w2.heap.size 0 h1 w3 []):=⟨bg,by simpa using cv,rfl,rfl⟩
   clear bg cv dG;generalize hF:lG a b cost drop add=F at*;have cd:=aa dN;have ec:Hid (∀i j,F i j=lG a b cost drop add i j):=fun i j=>by rw[hF]
   clear dN hF;go_loopw[39] (fun i wr=>∃(c8:Nat) (ab:Hp) (hs:List Value),c8<=M+1/\i=af ae c8/\lH h1 w2 M M F w2.heap.size c8 ab wr hs) (fun i _=>M+1-(intOf i).toNat);case atStart=>exact⟨0,h1,[],aW _,rfl,ej.out⟩
   case round=>
    obtain⟨i,ab,hs,fh,rfl,P⟩:=hrel;obtain⟨Y,rfl⟩:∃Y:World,Y=wr:=⟨_,rfl⟩
    have cl:=aa P;by_cases cu:i<M+1
    ·have fe:=(P.own.lt w2.heap.size rfl).2;clear P;have fB:(0:Int)<=(i:Int):=by omega
     have eN:(i:Int)<(M:Int)+1:=by omega
     go_wp2_with(at_make;refine jk fP rfl _ _ rfl cl.out.st ae ae _ _ (M+1) rfl rfl (by go_num) (by go_num) (by omega) ?_;intro fF d5 cw cZ;rw[j7]at cw;obtain⟨aQ,aS⟩:=cl.out.cells cu cZ;have el:=aa (cl.out.start cu cZ d5 cw);have fg:=(cw.lt Y.heap.size rfl).2;clear d5 cw cZ);go_loopw[54] (fun s wr=>∃(j:Nat),j<=M+1/\s=af ae j/\eW h1 w2 M M F w2.heap.size i ab hs Y.heap.size j wr) (fun i _=>M+1-(intOf i).toNat);case atStart=>exact⟨0,aW _,rfl,el.out⟩
     case round=>
      obtain⟨j,fi,rfl,R⟩:=hrel;have R':=aa R;by_cases eE:j<M+1
      ·skip;obtain⟨cX,c1,c2,-,c4,c5,-⟩:=R.cells cu eE;have aB:=R.st.gq;have dh:=R.st.size;have fv:=cl.out.st.size;have c9:w2.heap.size≠Y.heap.size:=fun e=>R.ne e.symm;have cC:=aa (ed.out w _ eb.out ((aN.out.trans (R.st.below.mono aN.out.size)).drew));have ax:Hid (F i j=if i<a.length then(if j<b.length then cost (a.getD i 0) (b.getD j 0)else drop (a.getD i 0))else if j<b.length then add (b.getD j 0)else 0):=by unfold Hid;rw[ec.out];rfl
       have fC:(0:Int)<=(j:Int):=by omega
       have eO:(j:Int)<(M:Int)+1:=by omega
       clear R;by_cases bS:i<a.length
       ·rw[if_pos bS]at ax;obtain⟨ba,oa,rfl,eP,bJ⟩:=cG.out.sX cf.out aB (by omega);have dk:=bK eP dh;have d2:ba≠Y.heap.size:=by omega
        have bO:=bJ i _ (pD a i bS);have aQ:a.getD i 0=a[i]:=by simp[bb,aE bS]
        have bd:=cN.out _ (aK bS);rw[aQ]at ax;generalize a[i]=ak at*;have d6:(i:Int)<(a.length:Int):=by omega
        clear bJ aQ;by_cases aL:j<b.length
        ·rw[if_pos aL]at ax;obtain⟨aP,aX,rfl,dm,a3⟩:=ce.out.sX cf.out aB (by omega);have cz:=bK dm dh;have dg:aP≠Y.heap.size:=by omega
         have bR:=a3 j _ (pD b j aL);have aS:b.getD j 0=b[j]:=by simp[bb,aE aL]
         have aT:=bE.out _ (aK aL);rw[aS]at ax;generalize b[j]=aj at*;have bT:(j:Int)<(b.length:Int):=by omega
         have bC:=aa ((b0.out ak aj bd aT).2 _ cC.out);have aQ:=ez;clear a3 aS aB;go_wp2_with fail;go_region_held3(fun w'=>w'.cell? ⟨w2.heap.size,i,none⟩=some (ag (some ⟨Y.heap.size,0,none⟩) (M+1) (M+1))/\w'.cell? ⟨ba,oa+i,none⟩=some (af ae ak)/\w'.cell? ⟨aP,aX+j,none⟩=some (af ae aj)) (first|(go_keep;done)|exact⟨a4,k1,k2⟩|exact⟨cell_far c9 a4,cell_far d2 k1,cell_far dg k2⟩) (first|(refine bC.out.mono ?_;rintro e bV ⟨rfl,O⟩;have a4:=(O.cell (p:=⟨w2.heap.size,i,none⟩) c4).trans cX;have k1:=(O.cell (p:=⟨ba,oa+i,none⟩) dk).trans bO;have k2:=(O.cell (p:=⟨aP,aX+j,none⟩) cz).trans bR;have k3:=(O.cell (p:=⟨Y.heap.size,j,none⟩) c5).trans c1;have k4:=(O.frozen (p:=⟨Y.heap.size,j,none⟩) c5).trans c2;have am:=aa O;clear O));go_wp2_with fail;go_roundw;case rel=>exact⟨j+1,by omega,by go_num,(R'.out.drew.sY am.out).put (by omega) _ ax.out.symm⟩
         case measure=>simp[intOf];omega
        ·rw[if_neg aL]at ax;have bT:¬(j:Int)<(b.length:Int):=by omega
         have bC:=aa ((b9.out ak bd).2 _ cC.out);have aQ:=eA;clear aB;go_wp2_with fail;go_region_held3(fun w'=>w'.cell? ⟨w2.heap.size,i,none⟩=some (ag (some ⟨Y.heap.size,0,none⟩) (M+1) (M+1))/\w'.cell? ⟨ba,oa+i,none⟩=some (af ae ak)) (first|(go_keep;done)|exact⟨a4,k1⟩|exact⟨cell_far c9 a4,cell_far d2 k1⟩) (first|(refine bC.out.mono ?_;rintro e bV ⟨rfl,O⟩;have a4:=(O.cell (p:=⟨w2.heap.size,i,none⟩) c4).trans cX;have k1:=(O.cell (p:=⟨ba,oa+i,none⟩) dk).trans bO;have k3:=(O.cell (p:=⟨Y.heap.size,j,none⟩) c5).trans c1;have k4:=(O.frozen (p:=⟨Y.heap.size,j,none⟩) c5).trans c2;have am:=aa O;clear O));go_wp2_with fail;go_roundw;case rel=>exact⟨j+1,by omega,by go_num,(R'.out.drew.sY am.out).put (by omega) _ ax.out.symm⟩
         case measure=>simp[intOf];omega
       ·rw[if_neg bS]at ax;have d6:¬(i:Int)<(a.length:Int):=by omega
        by_cases aL:j<b.length
        ·rw[if_pos aL]at ax;obtain⟨aP,aX,rfl,dm,a3⟩:=ce.out.sX cf.out aB (by omega);have cz:=bK dm dh;have dg:aP≠Y.heap.size:=by omega
         have bR:=a3 j _ (pD b j aL);have aS:b.getD j 0=b[j]:=by simp[bb,aE aL]
         have aT:=bE.out _ (aK aL);rw[aS]at ax;generalize b[j]=aj at*;have bT:(j:Int)<(b.length:Int):=by omega
         have bC:=aa ((bZ.out aj aT).2 _ cC.out);have aQ:=cY;clear a3 aS aB;go_wp2_with fail;go_region_held3(fun w'=>w'.cell? ⟨w2.heap.size,i,none⟩=some (ag (some ⟨Y.heap.size,0,none⟩) (M+1) (M+1))/\w'.cell? ⟨aP,aX+j,none⟩=some (af ae aj)) (first|(go_keep;done)|exact⟨a4,k2⟩|exact⟨cell_far c9 a4,cell_far dg k2⟩) (first|(refine bC.out.mono ?_;rintro e bV ⟨rfl,O⟩;have a4:=(O.cell (p:=⟨w2.heap.size,i,none⟩) c4).trans cX;have k2:=(O.cell (p:=⟨aP,aX+j,none⟩) cz).trans bR;have k3:=(O.cell (p:=⟨Y.heap.size,j,none⟩) c5).trans c1;have k4:=(O.frozen (p:=⟨Y.heap.size,j,none⟩) c5).trans c2;have am:=aa O;clear O));go_wp2_with fail;go_roundw;case rel=>exact⟨j+1,by omega,by go_num,(R'.out.drew.sY am.out).put (by omega) _ ax.out.symm⟩
         case measure=>simp[intOf];omega
        ·rw[if_neg aL]at ax;have bT:¬(j:Int)<(b.length:Int):=by omega
         clear aB;go_wp2_with fail;go_roundw;case rel=>exact⟨j+1,by omega,by go_num,R'.out.skip (by omega) ax.out⟩
         case measure=>simp[intOf];omega
      ·obtain rfl:j=M+1:=by omega
       obtain⟨eD,ek⟩:=R.done (by omega) (fun j hj=>by have:=bY.out i j (by omega) (by omega);unfold aG;omega) cu;go_wp2_with fail;go_roundw;case rel=>exact⟨i+1,eD,_,by omega,by go_num,ek⟩
       case measure=>simp[intOf];omega
    ·obtain rfl:i=M+1:=by omega
     have d3:=P.own.sl (by omega);have cV:Hid (gP (ab.fr w2.heap.size Y) (ag (some ⟨w2.heap.size,0,none⟩) (gp a b cost drop add).length (M+1)) (gp a b cost drop add)):=by have q:=P.enc.mono fun _ _ r=>r.mono (Hp.gQ (B:=w2.heap.size) P.st.I);unfold Hid;rw[cd.out];refine⟨hs,?_,q⟩;simpa using d3
     have aJ:=aa P.st.fr;have cQ:(gp a b cost drop add).length=M+1:=by rw[cd.out];simp
     have MP:Hid (jI (gp a b cost drop add)=true):=by unfold Hid;rw[oI];refine⟨by omega,fun r hr=> ?_⟩;rw[cQ];rw[cd.out]at hr;obtain⟨k,dU,rfl⟩:=b6.1 hr;refine⟨by simp,fun x hx=> ?_⟩;obtain⟨j,hj,rfl⟩:=b6.1 hx;exact bY.out k j (ee.1 dU) (ee.1 hj)
     have ep:Hid (∀r∈gp a b cost drop add,r.length=M+1):=fun r hr=>by rw[cd.out]at hr;obtain⟨k,dU,rfl⟩:=b6.1 hr;simp
     obtain⟨s,bz,dZ⟩:=wq (gp a b cost drop add);have dQ:mA (gp a b cost drop add)=s.tq:=by unfold mA;rw[bz];rfl
     rw[dQ]at a1;have cF:=aa bz;have cE:Hid (∀i,i<(gp a b cost drop add).length->0<=ge s.tq i/\ge s.tq i<(gp a b cost drop add).length):=fun i ab=>by obtain⟨j,hj,e,-⟩:=dZ.a i ab;omega
     clear bz dZ d3 P dQ bY b0 b9 bZ;generalize gp a b cost drop add=c at*;have ci:Hid (Ow Y (ab.fr w2.heap.size Y) B 3 1 (ag bI J.length bN) J.length (aV J)):=a9.out.keep (fun g G=>aJ.out.below.block g (a9.out.lt g G).2) (fun g G=>by rw[aJ.out.aI g (a9.out.lt g G).2,cc.out g (cM.out g G)]);have ch:Hid (Ow Y (ab.fr w2.heap.size Y) B 3 1 (ag an new.length bL) new.length (aV new)):=a8.out.keep (fun g G=>aJ.out.below.block g (a8.out.lt g G).2) (fun g G=>by rw[aJ.out.aI g (a8.out.lt g G).2,cc.out g (cK.out g G)])
     have a2:Hid (∀g,(ag bI J.length bN).ownBlock=some g\/(ag an new.length bL).ownBlock=some g->(ab.fr w2.heap.size Y) g=none/\g<w.heap.size/\h g=none):=fun g G=>by
      rcases G with G|G;·have:=cM.out g G;exact⟨by rw[aJ.out.aI g (by have:=aN.out.size;omega),cc.out g this];exact cB.out g G,this,cB.out g G⟩
      ·have:=cK.out g G;exact⟨by rw[aJ.out.aI g (by have:=aN.out.size;omega),cc.out g this];exact cA.out g G,this,cA.out g G⟩
     have bG:=aa (cG.out.mono aJ.out.le);have bH:=aa (ce.out.mono aJ.out.le);have cg:=aa aJ.out.I;have bX:=aa (aN.out.trans (aJ.out.below.mono aN.out.size));clear a9 a8 cG ce aJ cM cK cB cA;generalize ab.fr w2.heap.size Y=h2 at*;have eN:¬(M:Int)+1<(M:Int)+1:=by omega
     rw[<-cQ]at ct;rw[show((M+1:Nat):Int)=(M:Int)+1 from by omega];go_wp2_with fail;rw[cQ]at cV;refine(wu h2 _ cg.out _ c cV.out MP.out s cF.out cE.out).mono ?_;rintro e bV ⟨gu,gv,gt,k,rfl,O,it⟩;have IT:=aa it;have am:=aa O;clear it O;go_wp2_with fail;have er:Hid (∀g,((ag bI J.length bN).ownBlock=some g\/(ag an new.length bL).ownBlock=some g)->g<w.heap.size):=fun g G=>(a2.out g G).2.1;have du:=aa (ci.out.same am.out);have dt:=aa (ch.out.same am.out);have ei:=aa (cg.out.below am.out);have fc:w.heap.size<=gt:=Nat.le_trans bX.out.size (Ow.lt IT.out gt rfl).1;go_loopw[126] (fun i wr=>∃(n:Nat) (p:List Int×List Int),n<=c.length/\i=af ae n/\(aw n).foldl (oJ a b c s.tq) (J,new)=p/\Ow wr h2 B 3 1 (ag bI J.length bN) J.length (aV p.1)/\Ow wr h2 B 3 1 (ag an new.length bL) new.length (aV p.2)/\Tu (fun g=>(ag bI J.length bN).ownBlock=some g\/(ag an new.length bL).ownBlock=some g) bV wr) (fun i _=>c.length-(intOf i).toNat);case atStart=>exact⟨0,_,aW _,rfl,rfl,du.out.alloc _,dt.out.alloc _,(Tu.refl _ _).alloc _⟩
     case round=>
      obtain⟨n,p,fj,rfl,hp,aM,on,bB⟩:=hrel;clear du dt ci ch;by_cases hn:n<c.length
      ·have aB:ao h2 wr:=bB.I ei.out fun g G=>(a2.out g G).1;have it:=IT.out.tu bB fun e=>by have:=er.out _ e;omega
       have d0:=it.get hn;have fV:=it.lt;obtain⟨q,dW⟩:∃q:Nat,ge s.tq n=q:=⟨(ge s.tq n).toNat,by have:=(cE.out n hn).1;omega⟩
       have ft:q<c.length:=by have:=(cE.out n hn).2;omega
       rw[dW]at d0;obtain⟨ac,e7,dC,-,dP⟩:=cV.out.open;simp only[bU]at dC;obtain⟨rfl,-,rfl⟩:=dC;obtain⟨e3,fu,dD,fR,dY⟩:=dP wr aB (by omega);simp only[aC,cx,and_true]at dD;obtain⟨rfl,rfl⟩:=dD;obtain⟨ar,cr,bO,hints⟩:=dY n hn;have dX:=ep.out _ (aK hn);obtain⟨e2,e8,dE,-,dR⟩:=hints.open;simp only[bU]at dE;obtain⟨rfl,-,rfl⟩:=dE;obtain⟨e4,or,rfl,fU,hx⟩:=dR wr aB (by omega);have bR:=hx q (by omega);have dT:gm c n q=(c[n])[q]'(by omega):=by simp[gm,ge,bb,aE hn,aE (show q<(c[n]).length by omega)]
       rw[<-dT]at bR;rw[dX]at bO;simp only[Nat.zero_add]at bO;generalize eB:gm c n q=X at*;have aO:Hid ((aw (n+1)).foldl (oJ a b c s.tq) (J,new)=if n<a.length/\0<=(q:Int)/\(q:Int)<b.length/\X≠1048576 then(p.1.set (a.getD n 0) (b.getD q 0:Nat),p.2.set (b.getD q 0) (a.getD n 0:Nat))else p):=by unfold Hid;rw[List.range_succ,List.foldl_append,List.foldl_cons,List.foldl_nil,hp];simp only[oJ,dW,eB,Int.toNat_natCast]
       have aY:=aa aM;have aZ:=aa on;have bq:=aa bB;have eO:(0:Int)<=(n:Int):=by omega
       have d6:(n:Int)<(c.length:Int):=by omega
       have bT:(0:Int)<=(q:Int):=by omega
       have fD:(q:Int)<(M:Int)+1:=by omega
       have fE:(n:Int)<(M:Int)+1:=by omega
       clear aM on bB hp hx dR hints dY dP it dT dX;by_cases h1:n<a.length
       ·have eL:(n:Int)<(a.length:Int):=by omega
        by_cases c6:q<b.length
        ·have di:(q:Int)<(b.length:Int):=by omega
         by_cases cq:X=1048576
         ·have eM:(X !=1048576)=false:=by simp[cq]
          rw[if_neg (fun e=>e.2.2.2 cq)]at aO;go_wp2_with fail;go_roundw;case rel=>exact⟨n+1,p,by omega,by go_num,aO.out,aY.out,aZ.out,bq.out⟩
          case measure=>simp[intOf];omega
         ·have eM:(X !=1048576)=true:=by simp[cq]
          rw[if_pos ⟨h1,bT,di,cq⟩]at aO;have bd:=cN.out _ (aK h1);have aT:=bE.out _ (aK c6);obtain⟨ba,oa,rfl,dk,eI,bJ⟩:=bG.out.cells3 aB (by omega);obtain⟨aP,aX,rfl,cz,eJ,a3⟩:=bH.out.cells3 aB (by omega);have e9:=bJ n _ (pD a n h1);have fb:=a3 q _ (pD b q c6);have aQ:a.getD n 0=a[n]:=by simp[bb,aE h1]
          have aS:b.getD q 0=b[q]:=by simp[bb,aE c6]
          rw[aQ,aS]at aO;clear aQ aS;generalize a[n]=ak at*;generalize b[q]=aj at*;have eF:p.1.length=J.length:=by have:=aY.out.len;simpa[aV]using this
          have l2:p.2.length=new.length:=by have:=aZ.out.len;simpa[aV]using this
          obtain⟨go,rfl,-,fT,-,dB,dF⟩:=aY.out.cell (by omega);obtain⟨gn,rfl,-,fS,-,dA,fn⟩:=aZ.out.cell (by omega);have d7:∃v,wr.cell? ⟨go,ak,none⟩=some v:=⟨af ae (p.1[ak]'(by omega)),dB ak _ (by simp[aV,aE (show ak<p.1.length by omega)])⟩
          have d8:∃v,wr.cell? ⟨gn,aj,none⟩=some v:=⟨af ae (p.2[aj]'(by omega)),dA aj _ (by simp[aV,aE (show aj<p.2.length by omega)])⟩
          obtain⟨fG,d7⟩:=d7;obtain⟨fN,d8⟩:=d8;have fO:=dF ak;have fQ:=fn aj;have k1:ba≠go:=fun e=>eI (by rw[e];exact(a2.out go (.inl rfl)).1);have k2:aP≠go:=fun e=>eJ (by rw[e];exact(a2.out go (.inl rfl)).1);have k3:go≠gn:=fun e=>d9.out go rfl (by rw[e];rfl);have k4:gn≠go:=fun e=>k3 e.symm;have fw:(0:Int)<=(ak:Int):=by omega
          have fx:(ak:Int)<(J.length:Int):=by omega
          have fy:(0:Int)<=(aj:Int):=by omega
          have fA:(aj:Int)<(new.length:Int):=by omega
          clear bJ a3 dB dA dF fn;have em:=aa ((aY.out.set ak (af ae aj) (by omega)).setCell (p:=⟨gn,aj,none⟩) (by simp[bW,k3]) (af ae ak));have en:=aa ((aZ.out.setCell (p:=⟨go,ak,none⟩) (by simp[bW,k4]) (af ae aj)).set aj (af ae ak) (by omega));have eo:=aa ((bq.out.set (p:=⟨go,ak,none⟩) (.inl (.inl rfl)) (af ae aj)).set (p:=⟨gn,aj,none⟩) (.inl (.inr rfl)) (af ae ak));clear bd aT eF l2;go_wp2_with fail;refine ic 10 (by kernel_rfl) (by kernel_rfl) ?_;simp only[fl,ie,gj,BU];change wpStill _ _ (q1 _) (fun a'=>wpList _ _ _ _ a' (q1 _)) _ _;repeat still_step
          refine ig ?_;go_wp2_with fail;refine ic 10 (by kernel_rfl) (by kernel_rfl) ?_;simp only[fl,ie,gj,BU];change wpStill _ _ (q1 _) (fun a'=>wpList _ _ _ _ a' (q1 _)) _ _;repeat still_step
          refine ig ?_;go_wp2_with fail;go_roundw;case rel=>exact⟨n+1,_,by omega,by go_num,aO.out,by simp only[aV,hL];exact(em.out.drew).drew,by simp only[aV,hL];exact(en.out.drew).drew,(eo.out.drew).drew⟩
          case measure=>simp[intOf];omega
        ·have di:¬(q:Int)<(b.length:Int):=by omega
         rw[if_neg (fun e=>di e.2.2.1)]at aO;go_wp2_with fail;go_roundw;case rel=>exact⟨n+1,p,by omega,by go_num,aO.out,aY.out,aZ.out,bq.out⟩
         case measure=>simp[intOf];omega
       ·have eL:¬(n:Int)<(a.length:Int):=by omega
        rw[if_neg (fun e=>h1 e.1)]at aO;go_wp2_with fail;go_roundw;case rel=>exact⟨n+1,p,by omega,by go_num,aO.out,aY.out,aZ.out,bq.out⟩
        case measure=>simp[intOf];omega
      ·obtain rfl:n=c.length:=by omega
       have aY:=aa aM;have aZ:=aa on;have bq:=aa bB;have dn:=aa hp;clear aM on bB hp;go_wp2_with fail;refine bodyPost_end (j0 rfl _ _ _) rfl ?_;refine⟨rfl,?_,?_,?_⟩;·rw[a1.out,nC,ct,dn.out];exact aY.out.keep (fun _ _=>rfl) fun g G=>by rw[(a2.out g (.inl G)).1,(a2.out g (.inl G)).2.2]
       ·rw[a1.out,nC,ct,dn.out];exact aZ.out.keep (fun _ _=>rfl) fun g G=>by rw[(a2.out g (.inr G)).1,(a2.out g (.inr G)).2.2]
       ·exact(((Tu.refl _ w).below bX.out).below am.out).trans bq.out
end Go.Proofs.YtdplggpbgommnaaGreatDoor
