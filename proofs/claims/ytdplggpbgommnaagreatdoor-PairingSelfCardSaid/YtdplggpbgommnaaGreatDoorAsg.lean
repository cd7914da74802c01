/- pairing.assigned: what is not paired yet is paired by an assignment of least cost. -/
import Derived.Test.YtdplggpbgommnaaGreatDoorG13
import Derived.Test.YtdplggpbgommnaaGreatDoorSe
open Go renaming results_none→j0,wpStill_nil→ig,wp_region_still_tail→ic
open Go.Addr.mk renaming injEq→cx
open Go.IntKind renaming i64→ae
open Go.Lib renaming hid→aa
open Go.Proofs.Tryz renaming prog→ai
open Go.Value renaming int→af,ownBlock→bW,slice→ag
open Go.Value.slice renaming injEq→bU
open Go.World renaming drew→dd
open List renaming drop_succ_cons→gj,drop_zero→fm,eq_nil_of_length_eq_zero→kA,getD_eq_getElem?_getD→bb,getElem?_eq_getElem→aE,getElem_mem→aK,map_set→hL,mem_map→b6,mem_range→ee,range→aw,take_succ_cons→fl,take_zero→ie
open Nat renaming lt_of_lt_of_le→bK,zero_le→aW
open Option.some renaming injEq→aC
set_option maxRecDepth 100000
set_option maxHeartbeats 8000000
namespace Go.Proofs.YtdplggpbgommnaaGreatDoor
open Go.RowKit
def nB(x:Int)(W:World)(e:Ending)(W':World):Prop:=e= .returned (af ae x)∧Below W.heap.size W W'
theorem wl(l:List Int):(dp l).length≤l.length:=by have:=List.length_filter_le (fun i=>decide (l.getD i 0<0)) (aw l.length);simpa[dp]using this
theorem qJ{l:List Int}{i:Nat}(h:i∈dp l):i<l.length:=by unfold dp at h;exact ee.1 (List.mem_filter.1 h).1
theorem pD(l:List Nat)(k:Nat)(A:k<l.length):(l.flatMap iH)[k]? =some (af ae (l[k]:Nat)):=by
 have:l.flatMap iH=l.map fun i=>af ae (i:Nat):=by
  clear A;induction l with
  |nil=>rfl
  |cons a l E=>rw[List.flatMap_cons,List.map_cons,E];rfl
 rw[this,List.getElem?_map,aE A];rfl
theorem cell_far{w:World}{p q:Addr}{x:Option Value}{v:Value}(h:q.block≠p.block)(e:w.cell? q=x):(w.setCell p v).cell? q=x:=(World.cell?_of_block (a:=q) (Below.heap_setCell _ _ _ _ h)).trans e
theorem Sl.sX{h:Hp}{a:Option Addr}{n m M k:Nat}{cs:List Value}(G:Sl h (ag a m M) n k cs){w w':World}(ab:ao h w)(ac:ao h w')(E:0<n):∃b A,a=some ⟨b,A,none⟩∧b<w.heap.size∧∀i v,cs[i]? =some v→w'.cell? ⟨b,A+i,none⟩=some v:=by obtain⟨b,A,rfl,O,-⟩:=G.cells ab E;obtain⟨b',ad,e,-,Y⟩:=G.cells ac E;simp only[aC,cx,and_true]at e;obtain⟨rfl,rfl⟩:=e;exact⟨b,A,rfl,O,Y⟩
theorem eW.sY{h:Hp}{w:World}{m n:Nat}{F:Nat→Nat→Int}{A i:Nat}{E:Hp}{G:List Value}{g j:Nat}{wr w':World}(r:eW h w m n F A i E G g j wr)(b:Below wr.heap.size wr w'):eW h w m n F A i E G g j w':=
 ⟨r.st.same b,r.own.same b,r.row.same b,r.ne,r.enc,r.len⟩
theorem Sl.cells3{h:Hp}{a:Option Addr}{n m O k:Nat}{cs:List Value}(M:Sl h (ag a m O) n k cs){w:World}(ad:ao h w)(aj:0<n):∃b A,a=some ⟨b,A,none⟩∧b<w.heap.size∧h b≠none∧∀i v,cs[i]? =some v→w.cell? ⟨b,A+i,none⟩=some v:=by
 obtain⟨b,A,rfl,Y,ac⟩:=M.cells ad aj;refine⟨b,A,rfl,Y,?_,ac⟩;obtain⟨a',ak,e,_,_,G⟩:=M;simp only[bU]at e;rcases G with G|⟨b',am,c,E,ab,_⟩;·omega
 ·rw[←e.1]at E;simp only[aC,cx,and_true]at E;rw[E.1,ab];simp
theorem wm(h:Hp)(w:World)(ab:ao h w){B:Nat}(_hB:B≤w.heap.size)(bm bg:Value)(M G:List Int)(aL:Ow w h B 3 1 bm M.length (aV M))(aJ:Ow w h B 3 1 bg G.length (aV G))(ap:cj bm bg)(eN:M.length≤1000000)(eM:G.length≤1000000)(cv cw cu:Nat)(ec:Value)(dC ca:Array Value)(eF:∀args w,(callFunc cv args).run ai w= .ok (.enter cv args) w)(eG:∀args w,(callFunc cw args).run ai w= .ok (.enter cw args) w)(dg:∀args w,(callFunc cu args).run ai w= .ok (.enter cu args) w)(bq:World→Prop)(dQ:bq w)(dU:∀W dB,bq W→Below w.heap.size W dB→bq dB)(cost:Nat→Nat→Int)(drop add:Nat→Int)(dX:∀i j:Nat,i<M.length→j<G.length→(0≤cost i j∧cost i j≤1048576)∧∀W,bq W→Calls ai cv (#[ec]++ #[af ae i,af ae j]) W (nB (cost i j) W))(d0:∀i:Nat,i<M.length→(0≤drop i∧drop i≤1048576)∧∀W,bq W→Calls ai cw (#[af ae i]++dC) W (nB (drop i) W))(dW:∀i:Nat,i<G.length→(0≤add i∧add i≤1048576)∧∀W,bq W→Calls ai cu (#[af ae i]++ca) W (nB (add i) W)):Calls ai 54 #[bm,bg,.func (.func cv) #[ec] #[],.func (.func cw) #[] dC,.func (.func cu) #[] ca] w fun e w'=>e= .returned (.tuple #[])∧Ow w' h B 3 1 bm M.length (aV (eX M G cost drop add).1)∧Ow w' h B 3 1 bg G.length (aV (eX M G cost drop add).2)∧Tu (fun k=>bm.ownBlock=some k∨bg.ownBlock=some k) w w':=by
 have cQ:=aa ab;have c9:=aa aL;have c8:=aa aJ;have cY:Hid (∀g,bm.ownBlock=some g→g<w.heap.size):=fun g E=>(aL.lt g E).2;have cX:Hid (∀g,bg.ownBlock=some g→g<w.heap.size):=fun g E=>(aJ.lt g E).2;have cN:Hid (∀g,bm.ownBlock=some g→h g=none):=fun g E=>aL.free g E;have cM:Hid (∀g,bg.ownBlock=some g→h g=none):=fun g E=>aJ.free g E;have ce:=aa dX;have cf:=aa d0;have cd:=aa dW;have ep:=aa dU;have en:=aa dQ;have el:=aa ap;obtain⟨bL,bR,rfl⟩:=aL.shape;obtain⟨bJ,bO,rfl⟩:=aJ.shape;clear ab aL aJ dX d0 dW dU dQ ap;have aZ:Hid (eX M G cost drop add=if 40<(dp M).length+(dp G).length then(M,G)else nC (dp M) (dp G) (gp (dp M) (dp G) cost drop add) (mA (gp (dp M) (dp G) cost drop add)) M G):=rfl;have e4:=wl M;have e5:=wl G;have cZ:Hid (∀i∈dp M,i<M.length):=fun i ab=>qJ ab;have bG:Hid (∀i∈dp G,i<G.length):=fun i ab=>qJ ab;generalize eX M G cost drop add=eY at*;go_enter Tryz.func54,Tryz.ntmps54;go_wp2_with fail;refine(wo h _ cQ.out _ M c9.out eN).mono ?_;rintro e w1 ⟨fU,rfl,oa,b1⟩;have dv:=aa oa;have a4:=aa b1;clear oa b1;go_wp2_with fail;refine(wo h w1 (cQ.out.below a4.out) _ G (c8.out.same a4.out) eM).mono ?_;rintro e w2 ⟨fV,rfl,aT,b2⟩;have d9:ao h w2:=(cQ.out.below a4.out).below b2;have bl:Below w.heap.size w w2:=a4.out.trans (b2.mono a4.out.size);have bH:=(dv.out.same b2).sl (by omega);have bI:=(aT.base a4.out.size).sl (by omega);have cl:Hid (ao (h.fr w.heap.size w2) w2):=d9.fr;have cg:Hid (∀b,b<w.heap.size→(h.fr w.heap.size w2) b=h b):=fun b eI=>by unfold Hp.fr;rw[if_pos eI]
 have aM:=aa bl;have a8:=aa (c9.out.same bl);have a5:=aa (c8.out.same bl);clear aT b2 d9 bl dv a4 c9 c8;generalize h.fr w.heap.size w2=h1 at*;generalize dp M=a at*;generalize dp G=b at*;obtain⟨e6,fc,rfl,-⟩:=bH.shape;obtain⟨e7,fd,rfl,-⟩:=bI.shape;have cV:=aa bH;have ci:=aa bI;clear bH bI;by_cases fj:(40:Int)<(a.length:Int)+(b.length:Int);·go_wp2_with fail;refine bodyPost_ret (v:= .tuple #[]) (j0 rfl _ _ _) rfl ?_;rw[aZ.out,if_pos (by omega)];exact⟨rfl,a8.out,a5.out,(Tu.refl _ _).below aM.out⟩
 ·have cc:Hid (∀i j,i<a.length+b.length→j<a.length+b.length→0≤lG a b cost drop add i j∧lG a b cost drop add i j≤1048576):=fun i j ab hj=>by
   unfold lG;split
   ·rename_i h1;have ba:=cZ.out _ (aK h1);rw[bb,aE h1];split;·rename_i h2;have aS:=bG.out _ (aK h2);rw[bb,aE h2];exact(ce.out _ _ ba aS).1
    ·exact(cf.out _ ba).1
   ·split;·rename_i h2;have aS:=bG.out _ (aK h2);rw[bb,aE h2];exact(cd.out _ aS).1
    ·omega
  rw[if_neg (by omega)]at aZ;have w1:ae.wrap ((a.length:Int)+(b.length:Int))=((a.length+b.length:Nat):Int):=by rw[bA (by omega)];omega
  generalize cA:a.length+b.length=N at*;have fr:N≤40:=by omega
  go_wp2_with(at_make;refine jk sZ rfl _ _ rfl (St.refl cl.out) ae ae _ _ N rfl rfl (by go_num) (by go_num) (by omega) ?_;intro w3 bd cF dR;rw[j7]at cF);rcases Nat.eq_zero_or_pos N with rfl|fx
  ·have cm:=aa bd.I;have b9:=aa (aM.out.trans (bd.below.mono aM.out.size));have co:=aa (a8.out.same bd.below);have cn:=aa (a5.out.same bd.below);obtain⟨s,bz,-⟩:=wq [];have cU:=aa bz;have dg:a.length=0:=by omega
   have eE:b.length=0:=by omega
   rw[kA dg,kA eE]at aZ;have em:Hid (eY=(M,G)):=aZ.out;clear bd cF dR bz cc aZ ce cf cd a8 a5;rw[show((0:Nat):Int)=0 from rfl];go_wp2_with fail;refine wp_loop_rounds 1 ?_;rw[rounds_succ];go_wp2_with fail;refine(wu h1 _ cm.out _ [] ⟨[],Sl.nil _ _ _ _,rfl⟩ rfl s cU.out (fun i ab=>by simp at ab)).mono ?_;rintro e b0 ⟨gu,gv,gt,k,rfl,O,-⟩;have aj:=aa O;clear O;simp only[List.length_nil];go_wp2_with fail;refine wp_loop_rounds 1 ?_;rw[rounds_succ];go_wp2_with fail;refine bodyPost_end (j0 rfl _ _ _) rfl ?_;rw[em.out];exact⟨rfl,(co.out.same aj.out).alloc _,(cn.out.same aj.out).alloc _,(((Tu.refl _ w).below b9.out).below aj.out).alloc _⟩
  ·obtain⟨A,rfl⟩:∃A,N=A+1:=⟨N-1,by omega⟩
   rw[show((A+1:Nat):Int)=(A:Int)+1 from by omega]at w1⊢;have dT:gp a b cost drop add=(aw (A+1)).map fun i=>(aw (A+1)).map (lG a b cost drop add i):=by unfold gp;rw[cA]
   have er:Hid (lH h1 w2 A A (lG a b cost drop add) w2.heap.size 0 h1 w3 []):=⟨bd,by simpa using cF,rfl,rfl⟩
   clear bd cF dR;generalize hF:lG a b cost drop add=F at*;have ch:=aa dT;have eo:Hid (∀i j,F i j=lG a b cost drop add i j):=fun i j=>by rw[hF]
   clear dT hF;go_loopw[15,16,39,40,41,42,43,44,45,46,47,48,49,50,51,52,53,54,55,56,57,58,59,60,61,62,63,64,65,66,67,68,69,70,71,72,73,74,75,76,77,78,79,80,81,82,83,84,85,86,87,88,89,90,91,92,93,94,95,96,97,98,99,100,101,102,103,104,105,106,107,108,109,110,111,112,113,114,115] (fun _ _ i _ _ _ _ _ _ _ _ _ _ _ _ _ _ _ _ _ _ _ _ _ _ _ _ _ _ _ _ _ _ _ _ _ _ _ _ _ _ _ _ _ _ _ _ _ _ _ _ _ _ _ _ _ _ _ _ _ _ _ _ _ _ _ _ _ _ _ _ _ _ _ _ _ _ _ _ wr=>∃(dj:Nat) (ab:Hp) (cD:List Value),dj≤A+1∧i=af ae dj∧lH h1 w2 A A F w2.heap.size dj ab wr cD) (fun _ _ i _ _ _ _ _ _ _ _ _ _ _ _ _ _ _ _ _ _ _ _ _ _ _ _ _ _ _ _ _ _ _ _ _ _ _ _ _ _ _ _ _ _ _ _ _ _ _ _ _ _ _ _ _ _ _ _ _ _ _ _ _ _ _ _ _ _ _ _ _ _ _ _ _ _ _ _ _=>A+1-(intOf i).toNat);case atStart=>exact⟨0,h1,[],aW _,rfl,er.out⟩
   case round=>
    obtain⟨i,ab,cD,fu,rfl,P⟩:=hrel;obtain⟨Y,rfl⟩:∃Y:World,Y=wr:=⟨_,rfl⟩
    have cq:=aa P;by_cases cB:i<A+1
    ·have fn:=(P.own.lt w2.heap.size rfl).2;clear P;have fQ:(0:Int)≤(i:Int):=by omega
     have e1:(i:Int)<(A:Int)+1:=by omega
     go_wp2_with(at_make;refine jk fP rfl _ _ rfl cq.out.st ae ae _ _ (A+1) rfl rfl (by go_num) (by go_num) (by omega) ?_;intro fW ed cG dh;rw[j7]at cG;obtain⟨aP,aQ⟩:=cq.out.cells cB dh;have ex:=aa (cq.out.start cB dh ed cG);have ft:=(cG.lt Y.heap.size rfl).2;clear ed cG dh);go_loopw[16,54,55,56,57,58,59,60,61,62,63,64,65,66,67,68,69,70,71,72,73,74,75,76,77,78,79,80,81,82,83,84,85,86,87,88,89,90,91,92,93,94,95,96,97,98,99,100,101,102,103,104,105,106,107,108,109,110,111,112,113,114] (fun _ s _ _ _ _ _ _ _ _ _ _ _ _ _ _ _ _ _ _ _ _ _ _ _ _ _ _ _ _ _ _ _ _ _ _ _ _ _ _ _ _ _ _ _ _ _ _ _ _ _ _ _ _ _ _ _ _ _ _ _ _ wr=>∃(j:Nat),j≤A+1∧s=af ae j∧eW h1 w2 A A F w2.heap.size i ab cD Y.heap.size j wr) (fun _ i _ _ _ _ _ _ _ _ _ _ _ _ _ _ _ _ _ _ _ _ _ _ _ _ _ _ _ _ _ _ _ _ _ _ _ _ _ _ _ _ _ _ _ _ _ _ _ _ _ _ _ _ _ _ _ _ _ _ _ _ _=>A+1-(intOf i).toNat);case atStart=>exact⟨0,aW _,rfl,ex.out⟩
     case round=>
      obtain⟨j,fv,rfl,R⟩:=hrel;have ct:=aa R;by_cases eK:j<A+1
      ·skip;obtain⟨de,c1,c2,-,c4,c5,-⟩:=R.cells cB eK;have am:=R.st.gq;have dn:=R.st.size;have fC:=cq.out.st.size;have dk:w2.heap.size≠Y.heap.size:=fun e=>R.ne e.symm;have GW:=aa (ep.out w _ en.out ((aM.out.trans (R.st.below.mono aM.out.size)).drew));have ak:Hid (F i j=if i<a.length then(if j<b.length then cost (a.getD i 0) (b.getD j 0)else drop (a.getD i 0))else if j<b.length then add (b.getD j 0)else 0):=by unfold Hid;rw[eo.out];rfl
       have fR:(0:Int)≤(j:Int):=by omega
       have e2:(j:Int)<(A:Int)+1:=by omega
       clear R;by_cases bX:i<a.length
       ·rw[if_pos bX]at ak;obtain⟨a9,oa,rfl,e3,bN⟩:=cV.out.sX cl.out am (by omega);have dr:=bK e3 dn;have ea:a9≠Y.heap.size:=by omega
        have bS:=bN i _ (pD a i bX);have aP:a.getD i 0=a[i]:=by simp[bb,aE bX]
        have ba:=cZ.out _ (aK bX);rw[aP]at ak;generalize a[i]=ad at*;have ei:(i:Int)<(a.length:Int):=by omega
        clear bN aP;by_cases aB:j<b.length
        ·rw[if_pos aB]at ak;obtain⟨aO,aT,rfl,dt,a2⟩:=ci.out.sX cl.out am (by omega);have cK:=bK dt dn;have dm:aO≠Y.heap.size:=by omega
         have bT:=a2 j _ (pD b j aB);have aQ:b.getD j 0=b[j]:=by simp[bb,aE aB]
         have aS:=bG.out _ (aK aB);rw[aQ]at ak;generalize b[j]=ac at*;have bZ:(j:Int)<(b.length:Int):=by omega
         have bE:=aa ((ce.out ad ac ba aS).2 _ GW.out);have aP:=eF;clear a2 aQ am;go_wp2_with fail;go_region_held3(fun w'=>w'.cell? ⟨w2.heap.size,i,none⟩=some (ag (some ⟨Y.heap.size,0,none⟩) (A+1) (A+1))∧w'.cell? ⟨a9,oa+i,none⟩=some (af ae ad)∧w'.cell? ⟨aO,aT+j,none⟩=some (af ae ac)) (first|(go_keep;done)|exact⟨a3,k1,k2⟩|exact⟨cell_far dk a3,cell_far ea k1,cell_far dm k2⟩) (first|(refine bE.out.mono ?_;rintro e b0 ⟨rfl,O⟩;have a3:=(O.cell (p:=⟨w2.heap.size,i,none⟩) c4).trans de;have k1:=(O.cell (p:=⟨a9,oa+i,none⟩) dr).trans bS;have k2:=(O.cell (p:=⟨aO,aT+j,none⟩) cK).trans bT;have k3:=(O.cell (p:=⟨Y.heap.size,j,none⟩) c5).trans c1;have k4:=(O.frozen (p:=⟨Y.heap.size,j,none⟩) c5).trans c2;have aj:=aa O;clear O));go_wp2_with fail;go_roundw;case rel=>exact⟨j+1,by omega,by go_num,(ct.out.drew.sY aj.out).put (by omega) _ ak.out.symm⟩
         case measure=>simp[intOf];omega
        ·rw[if_neg aB]at ak;have bZ:¬(j:Int)<(b.length:Int):=by omega
         have bE:=aa ((cf.out ad ba).2 _ GW.out);have aP:=eG;clear am;go_wp2_with fail;go_region_held3(fun w'=>w'.cell? ⟨w2.heap.size,i,none⟩=some (ag (some ⟨Y.heap.size,0,none⟩) (A+1) (A+1))∧w'.cell? ⟨a9,oa+i,none⟩=some (af ae ad)) (first|(go_keep;done)|exact⟨a3,k1⟩|exact⟨cell_far dk a3,cell_far ea k1⟩) (first|(refine bE.out.mono ?_;rintro e b0 ⟨rfl,O⟩;have a3:=(O.cell (p:=⟨w2.heap.size,i,none⟩) c4).trans de;have k1:=(O.cell (p:=⟨a9,oa+i,none⟩) dr).trans bS;have k3:=(O.cell (p:=⟨Y.heap.size,j,none⟩) c5).trans c1;have k4:=(O.frozen (p:=⟨Y.heap.size,j,none⟩) c5).trans c2;have aj:=aa O;clear O));go_wp2_with fail;go_roundw;case rel=>exact⟨j+1,by omega,by go_num,(ct.out.drew.sY aj.out).put (by omega) _ ak.out.symm⟩
         case measure=>simp[intOf];omega
       ·rw[if_neg bX]at ak;have ei:¬(i:Int)<(a.length:Int):=by omega
        by_cases aB:j<b.length
        ·rw[if_pos aB]at ak;obtain⟨aO,aT,rfl,dt,a2⟩:=ci.out.sX cl.out am (by omega);have cK:=bK dt dn;have dm:aO≠Y.heap.size:=by omega
         have bT:=a2 j _ (pD b j aB);have aQ:b.getD j 0=b[j]:=by simp[bb,aE aB]
         have aS:=bG.out _ (aK aB);rw[aQ]at ak;generalize b[j]=ac at*;have bZ:(j:Int)<(b.length:Int):=by omega
         have bE:=aa ((cd.out ac aS).2 _ GW.out);have aP:=dg;clear a2 aQ am;go_wp2_with fail;go_region_held3(fun w'=>w'.cell? ⟨w2.heap.size,i,none⟩=some (ag (some ⟨Y.heap.size,0,none⟩) (A+1) (A+1))∧w'.cell? ⟨aO,aT+j,none⟩=some (af ae ac)) (first|(go_keep;done)|exact⟨a3,k2⟩|exact⟨cell_far dk a3,cell_far dm k2⟩) (first|(refine bE.out.mono ?_;rintro e b0 ⟨rfl,O⟩;have a3:=(O.cell (p:=⟨w2.heap.size,i,none⟩) c4).trans de;have k2:=(O.cell (p:=⟨aO,aT+j,none⟩) cK).trans bT;have k3:=(O.cell (p:=⟨Y.heap.size,j,none⟩) c5).trans c1;have k4:=(O.frozen (p:=⟨Y.heap.size,j,none⟩) c5).trans c2;have aj:=aa O;clear O));go_wp2_with fail;go_roundw;case rel=>exact⟨j+1,by omega,by go_num,(ct.out.drew.sY aj.out).put (by omega) _ ak.out.symm⟩
         case measure=>simp[intOf];omega
        ·rw[if_neg aB]at ak;have bZ:¬(j:Int)<(b.length:Int):=by omega
         clear am;go_wp2_with fail;go_roundw;case rel=>exact⟨j+1,by omega,by go_num,ct.out.skip (by omega) ak.out⟩
         case measure=>simp[intOf];omega
      ·obtain rfl:j=A+1:=by omega
       obtain⟨eJ,es⟩:=R.done (by omega) (fun j hj=>by have:=cc.out i j (by omega) (by omega);unfold aG;omega) cB;go_wp2_with fail;go_roundw;case rel=>exact⟨i+1,eJ,_,by omega,by go_num,es⟩
       case measure=>simp[intOf];omega
    ·obtain rfl:i=A+1:=by omega
     have eb:=P.own.sl (by omega);have db:Hid (gP (ab.fr w2.heap.size Y) (ag (some ⟨w2.heap.size,0,none⟩) (gp a b cost drop add).length (A+1)) (gp a b cost drop add)):=by have q:=P.enc.mono fun _ _ r=>r.mono (Hp.gQ (B:=w2.heap.size) P.st.I);unfold Hid;rw[ch.out];refine⟨cD,?_,q⟩;simpa using eb
     have ax:=aa P.st.fr;have c6:(gp a b cost drop add).length=A+1:=by rw[ch.out];simp
     have MP:Hid (jI (gp a b cost drop add)=true):=by unfold Hid;rw[oI];refine⟨by omega,fun r bY=> ?_⟩;rw[c6];rw[ch.out]at bY;obtain⟨k,d4,rfl⟩:=b6.1 bY;refine⟨by simp,fun x cE=> ?_⟩;obtain⟨j,hj,rfl⟩:=b6.1 cE;exact cc.out k j (ee.1 d4) (ee.1 hj)
     have eB:Hid (∀r∈gp a b cost drop add,r.length=A+1):=fun r bY=>by rw[ch.out]at bY;obtain⟨k,d4,rfl⟩:=b6.1 bY;simp
     obtain⟨s,bz,d8⟩:=wq (gp a b cost drop add);have dZ:mA (gp a b cost drop add)=s.tq:=by unfold mA;rw[bz];rfl
     rw[dZ]at aZ;have cU:=aa bz;have cS:Hid (∀i,i<(gp a b cost drop add).length→0≤ge s.tq i∧ge s.tq i<(gp a b cost drop add).length):=fun i ab=>by obtain⟨j,hj,e,-⟩:=d8.a i ab;omega
     clear bz d8 eb P dZ cc ce cf cd;generalize gp a b cost drop add=c at*;have co:Hid (Ow Y (ab.fr w2.heap.size Y) B 3 1 (ag bL M.length bR) M.length (aV M)):=a8.out.U (fun g E=>ax.out.below.block g (a8.out.lt g E).2) (fun g E=>by rw[ax.out.aI g (a8.out.lt g E).2,cg.out g (cY.out g E)]);have cn:Hid (Ow Y (ab.fr w2.heap.size Y) B 3 1 (ag bJ G.length bO) G.length (aV G)):=a5.out.U (fun g E=>ax.out.below.block g (a5.out.lt g E).2) (fun g E=>by rw[ax.out.aI g (a5.out.lt g E).2,cg.out g (cX.out g E)])
     have a1:Hid (∀g,(ag bL M.length bR).ownBlock=some g∨(ag bJ G.length bO).ownBlock=some g→(ab.fr w2.heap.size Y) g=none∧g<w.heap.size∧h g=none):=fun g E=>by
      rcases E with E|E;·have:=cY.out g E;exact⟨by rw[ax.out.aI g (by have:=aM.out.size;omega),cg.out g this];exact cN.out g E,this,cN.out g E⟩
      ·have:=cX.out g E;exact⟨by rw[ax.out.aI g (by have:=aM.out.size;omega),cg.out g this];exact cM.out g E,this,cM.out g E⟩
     have bH:=aa (cV.out.mono ax.out.le);have bI:=aa (ci.out.mono ax.out.le);have cm:=aa ax.out.I;have b9:=aa (aM.out.trans (ax.out.below.mono aM.out.size));clear a8 a5 cV ci ax cY cX cN cM;generalize ab.fr w2.heap.size Y=h2 at*;have e1:¬(A:Int)+1<(A:Int)+1:=by omega
     rw[←c6]at cA;rw[show((A+1:Nat):Int)=(A:Int)+1 from by omega];go_wp2_with fail;rw[c6]at db;refine(wu h2 _ cm.out _ c db.out MP.out s cU.out cS.out).mono ?_;rintro e b0 ⟨gu,gv,gt,k,rfl,O,bB⟩;have IT:=aa bB;have aj:=aa O;clear bB O;go_wp2_with fail;have eC:Hid (∀g,((ag bL M.length bR).ownBlock=some g∨(ag bJ G.length bO).ownBlock=some g)→g<w.heap.size):=fun g E=>(a1.out g E).2.1;have dA:=aa (co.out.same aj.out);have dw:=aa (cn.out.same aj.out);have eq:=aa (cm.out.below aj.out);have fi:w.heap.size≤gt:=Nat.le_trans b9.out.size (Ow.lt IT.out gt rfl).1;go_loopw[19,20,126,127,128,129,130,131,132,133,134,135,136,137,138,139,140,141,142,143,144,145,146,147,148,149,150,151,152,153,154,155,156,157,158,159,160,161,162,163,164,165,166,167,168,169] (fun _ _ i _ _ _ _ _ _ _ _ _ _ _ _ _ _ _ _ _ _ _ _ _ _ _ _ _ _ _ _ _ _ _ _ _ _ _ _ _ _ _ _ _ _ _ wr=>∃(n:Nat) (p:List Int×List Int),n≤c.length∧i=af ae n∧(aw n).foldl (oJ a b c s.tq) (M,G)=p∧Ow wr h2 B 3 1 (ag bL M.length bR) M.length (aV p.1)∧Ow wr h2 B 3 1 (ag bJ G.length bO) G.length (aV p.2)∧Tu (fun g=>(ag bL M.length bR).ownBlock=some g∨(ag bJ G.length bO).ownBlock=some g) b0 wr) (fun _ _ i _ _ _ _ _ _ _ _ _ _ _ _ _ _ _ _ _ _ _ _ _ _ _ _ _ _ _ _ _ _ _ _ _ _ _ _ _ _ _ _ _ _ _ _=>c.length-(intOf i).toNat);case atStart=>exact⟨0,_,aW _,rfl,rfl,dA.out.alloc _,dw.out.alloc _,(Tu.refl _ _).alloc _⟩
     case round=>
      obtain⟨n,p,fw,rfl,cC,aL,aJ,bC⟩:=hrel;clear dA dw co cn;by_cases bv:n<c.length
      ·have am:ao h2 wr:=bC.I eq.out fun g E=>(a1.out g E).1;have bB:=IT.out.tu bC fun e=>by have:=eC.out _ e;omega
       have eD:=bB.get bv;have f5:=bB.lt;obtain⟨q,d5⟩:∃q:Nat,ge s.tq n=q:=⟨(ge s.tq n).toNat,by have:=(cS.out n bv).1;omega⟩
       have fy:q<c.length:=by have:=(cS.out n bv).2;omega
       rw[d5]at eD;obtain⟨e8,fe,dF,-,dY⟩:=db.out.open;simp only[bU]at dF;obtain⟨rfl,-,rfl⟩:=dF;obtain⟨e',fA,dG,f1,d7⟩:=dY wr am (by omega);simp only[aC,cx,and_true]at dG;obtain⟨rfl,rfl⟩:=dG;obtain⟨ar,cr,bS,d3⟩:=d7 n bv;have d6:=eB.out _ (aK bv);obtain⟨e9,ff,dN,-,d1⟩:=d3.open;simp only[bU]at dN;obtain⟨rfl,-,rfl⟩:=dN;obtain⟨fb,fB,rfl,f4,cE⟩:=d1 wr am (by omega);have bT:=cE q (by omega);have d2:gm c n q=(c[n])[q]'(by omega):=by simp[gm,ge,bb,aE bv,aE (show q<(c[n]).length by omega)]
       rw[←d2]at bT;rw[d6]at bS;simp only[Nat.zero_add]at bS;generalize eH:gm c n q=X at*;have aN:Hid ((aw (n+1)).foldl (oJ a b c s.tq) (M,G)=if n<a.length∧0≤(q:Int)∧(q:Int)<b.length∧X≠1048576 then(p.1.set (a.getD n 0) (b.getD q 0:Nat),p.2.set (b.getD q 0) (a.getD n 0:Nat))else p):=by unfold Hid;rw[List.range_succ,List.foldl_append,List.foldl_cons,List.foldl_nil,cC];simp only[oJ,d5,eH,Int.toNat_natCast]
       have aX:=aa aL;have aY:=aa aJ;have bp:=aa bC;have e2:(0:Int)≤(n:Int):=by omega
       have ei:(n:Int)<(c.length:Int):=by omega
       have bZ:(0:Int)≤(q:Int):=by omega
       have fS:(q:Int)<(A:Int)+1:=by omega
       have fT:(n:Int)<(A:Int)+1:=by omega
       clear aL aJ bC cC cE d1 d3 d7 dY bB d2 d6;by_cases h1:n<a.length
       ·have eZ:(n:Int)<(a.length:Int):=by omega
        by_cases di:q<b.length
        ·have dq:(q:Int)<(b.length:Int):=by omega
         by_cases cz:X=1048576
         ·have e0:(X !=1048576)=false:=by simp[cz]
          rw[if_neg (fun e=>e.2.2.2 cz)]at aN;go_wp2_with fail;go_roundw;case rel=>exact⟨n+1,p,by omega,by go_num,aN.out,aX.out,aY.out,bp.out⟩
          case measure=>simp[intOf];omega
         ·have e0:(X !=1048576)=true:=by simp[cz]
          rw[if_pos ⟨h1,bZ,dq,cz⟩]at aN;have ba:=cZ.out _ (aK h1);have aS:=bG.out _ (aK di);obtain⟨a9,oa,rfl,dr,eO,bN⟩:=bH.out.cells3 am (by omega);obtain⟨aO,aT,rfl,cK,eP,a2⟩:=bI.out.cells3 am (by omega);have fg:=bN n _ (pD a n h1);have fh:=a2 q _ (pD b q di);have aP:a.getD n 0=a[n]:=by simp[bb,aE h1]
          have aQ:b.getD q 0=b[q]:=by simp[bb,aE di]
          rw[aP,aQ]at aN;clear aP aQ;generalize a[n]=ad at*;generalize b[q]=ac at*;have eL:p.1.length=M.length:=by have:=aX.out.len;simpa[aV]using this
          have l2:p.2.length=G.length:=by have:=aY.out.len;simpa[aV]using this
          obtain⟨go,rfl,-,f3,-,dE,dP⟩:=aX.out.cell (by omega);obtain⟨bV,rfl,-,f2,-,dD,dO⟩:=aY.out.cell (by omega);have ej:∃v,wr.cell? ⟨go,ad,none⟩=some v:=⟨af ae (p.1[ad]'(by omega)),dE ad _ (by simp[aV,aE (show ad<p.1.length by omega)])⟩
          have ek:∃v,wr.cell? ⟨bV,ac,none⟩=some v:=⟨af ae (p.2[ac]'(by omega)),dD ac _ (by simp[aV,aE (show ac<p.2.length by omega)])⟩
          obtain⟨fX,ej⟩:=ej;obtain⟨fY,ek⟩:=ek;have fZ:=dP ad;have f0:=dO ac;have k1:a9≠go:=fun e=>eO (by rw[e];exact(a1.out go (.inl rfl)).1);have k2:aO≠go:=fun e=>eP (by rw[e];exact(a1.out go (.inl rfl)).1);have k3:go≠bV:=fun e=>el.out go rfl (by rw[e];rfl);have k4:bV≠go:=fun e=>k3 e.symm;have fD:(0:Int)≤(ad:Int):=by omega
          have fE:(ad:Int)<(M.length:Int):=by omega
          have fF:(0:Int)≤(ac:Int):=by omega
          have fG:(ac:Int)<(G.length:Int):=by omega
          clear bN a2 dE dD dP dO;have ey:=aa ((aX.out.set ad (af ae ac) (by omega)).setCell (p:=⟨bV,ac,none⟩) (by simp[bW,k3]) (af ae ad));have ez:=aa ((aY.out.setCell (p:=⟨go,ad,none⟩) (by simp[bW,k4]) (af ae ac)).set ac (af ae ad) (by omega));have eA:=aa ((bp.out.set (p:=⟨go,ad,none⟩) (.inl (.inl rfl)) (af ae ac)).set (p:=⟨bV,ac,none⟩) (.inl (.inr rfl)) (af ae ad));clear ba aS eL l2;go_wp2_with fail;refine ic 10 (by kernel_rfl) (by kernel_rfl) ?_;simp only[fl,ie,gj,fm];change wpStill _ _ (dd _) (fun a'=>wpList _ _ _ _ a' (dd _)) _ _;repeat still_step
          refine ig ?_;go_wp2_with fail;refine ic 10 (by kernel_rfl) (by kernel_rfl) ?_;simp only[fl,ie,gj,fm];change wpStill _ _ (dd _) (fun a'=>wpList _ _ _ _ a' (dd _)) _ _;repeat still_step
          refine ig ?_;go_wp2_with fail;go_roundw;case rel=>exact⟨n+1,_,by omega,by go_num,aN.out,by simp only[aV,hL];exact(ey.out.drew).drew,by simp only[aV,hL];exact(ez.out.drew).drew,(eA.out.drew).drew⟩
          case measure=>simp[intOf];omega
        ·have dq:¬(q:Int)<(b.length:Int):=by omega
         rw[if_neg (fun e=>dq e.2.2.1)]at aN;go_wp2_with fail;go_roundw;case rel=>exact⟨n+1,p,by omega,by go_num,aN.out,aX.out,aY.out,bp.out⟩
         case measure=>simp[intOf];omega
       ·have eZ:¬(n:Int)<(a.length:Int):=by omega
        rw[if_neg (fun e=>h1 e.1)]at aN;go_wp2_with fail;go_roundw;case rel=>exact⟨n+1,p,by omega,by go_num,aN.out,aX.out,aY.out,bp.out⟩
        case measure=>simp[intOf];omega
      ·obtain rfl:n=c.length:=by omega
       have aX:=aa aL;have aY:=aa aJ;have bp:=aa bC;have du:=aa cC;clear aL aJ bC cC;go_wp2_with fail;refine bodyPost_end (j0 rfl _ _ _) rfl ?_;refine⟨rfl,?_,?_,?_⟩;·rw[aZ.out,nC,cA,du.out];exact aX.out.U (fun _ _=>rfl) fun g E=>by rw[(a1.out g (.inl E)).1,(a1.out g (.inl E)).2.2]
       ·rw[aZ.out,nC,cA,du.out];exact aY.out.U (fun _ _=>rfl) fun g E=>by rw[(a1.out g (.inr E)).1,(a1.out g (.inr E)).2.2]
       ·exact(((Tu.refl _ w).below b9.out).below aj.out).trans bp.out
end Go.Proofs.YtdplggpbgommnaaGreatDoor
