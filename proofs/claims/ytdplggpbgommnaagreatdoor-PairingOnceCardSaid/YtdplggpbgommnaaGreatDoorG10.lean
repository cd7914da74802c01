/- matching.positional. -/
import Derived.Test.YtdplggpbgommnaaGreatDoorG04
import Derived.Test.YtdplggpbgommnaaGreatDoorG09
import Derived.Laws.CopyOwn
open Go renaming madeCells->eS,maxLen->ew
open Go.Addr renaming add_lit->sw
open Go.Addr.mk renaming injEq->cx
open Go.Builtin renaming copy_->vX,firstCells->Bz,lenOf->Bw
open Go.IntKind renaming i64->ae,wrap_u64->Ks
open Go.Lib renaming hid->aa
open Go.Obj renaming cells->au
open Go.Proofs.Tryz renaming prog->ai,underlying34->sD,underlying40->B2
open Go.Value renaming bool->ay,int->af,slice->ag
open Go.Value.slice renaming injEq->bU
open Go.World.grownBy renaming refl->kC
open List renaming append_assoc->fI,drop_append_of_le_length->B5,drop_eq_getElem_cons->jh,drop_of_length_le->oz,getElem?_append_left->jD,nil_append->ji,of_mem_zip->BQ,pairwise_cons->fJ,replicate->aA,take_of_length_le->iG,zip_cons_cons->BS
open List.Pairwise renaming filter->vM
open Nat renaming add_mul->gN,eq_zero_or_pos->et,le_refl->kI,lt_or_ge->b7,min_eq_left->sN,min_le_right->sO,min->fK,mul_le_mul_right->mq,mul_one->La,one_mul->Ld,zero_add->cO,zero_le->aW
open Option.some renaming injEq->aC,inj->aU
set_option maxRecDepth 100000
set_option maxHeartbeats 4000000
namespace Go.Proofs.YtdplggpbgommnaaGreatDoor
open Go.RowKit
def jQ(x y:List aB)(p:Int×Int):List (Int×Int):=((nd x p.1).kids.zip (nd y p.2).kids).filter fun q=>decide ((nd x q.1).kind=(nd y q.2).kind)
theorem tY{x y:List aB}(hx:WF x)(hy:WF y):KF x y (jQ x y):=by
 refine⟨?_,?_⟩;·intro p hp q am;have G:=BQ (List.mem_filter.1 am).1;obtain⟨J,O,Y,ab⟩:=eK hx hp.1 hp.2.1 G.1;obtain⟨b1,b2,b3,ak⟩:=eK hy hp.2.2.1 hp.2.2.2 G.2;exact⟨⟨J,O,b1,b2⟩,Y,ab,ak⟩
 ·intro p hp;have aj:=hx.gU p.1.toNat _ (gV hp.1 hp.2.1);unfold jQ;refine vM _ ?_
  have:∀(a b:List Int),a.Pairwise (·<·)->(a.zip b).Pairwise (fun q r=>q≠r):=by
   intro a;induction a with
   |nil=>intro b _;simp
   |cons u a ao=>
    intro b h;cases b with
    |nil=>simp
    |cons v b=>rw[fJ]at h;rw[BS,fJ];refine⟨fun r hr e=> ?_,ao b h.2⟩;have h1:=h.1 r.1 (BQ hr).1;rw[<-e]at h1;simp only at h1;omega
  exact this _ _ aj
def oW(x y:List aB):List (Int×Int):=((ez (jQ x y) (x.length*y.length) (x.length*y.length+1) [(0,0)] 0).getD [])
def dr(x y:List aB):kd:={aR:=cq (oW x y),cost:=(dP x y (cq (oW x y))).getD 0,gT:=false,a7:=max ((x.length:Int)-y.length) (-((x.length:Int)-y.length)),proof:=[]}
theorem xP(x y:List aB):∀(rest pre:List (Int×Int)) (c r:Int),gB x y pre rest c=some r->c-2*rest.length<=r/\r<=c
 |[],pre,c,r,h=>by simp only[gB,aC]at h;subst h;simp
 |p::ps,pre,c,r,h=>by
  rw[gB]at h;split at h;·have:=xP x y ps _ _ r h;have:=mM (nd x p.1).text (nd y p.2).text;simp only[List.length_cons];omega
  ·cases h
theorem El(x y:List aB)(l:List (Int×Int))(hx:x.length<=1000000000)(hy:y.length<=1000000000)(G:l.length<=140737488355328):aG ((dP x y l).getD 0):=by
 unfold aG;cases h:dP x y l with
 |none=>simp
 |some r=>have:=xP x y l [] _ r h;simp only[Option.getD_some];omega
theorem Em{a b:List Int}{k:Nat}(h1:k<a.length)(h2:k<b.length):(a.drop k).zip (b.drop k)=(a[k],b[k])::(a.drop (k+1)).zip (b.drop (k+1)):=by rw[jh h1,jh h2,BS]
theorem En{a b:List Int}{k:Nat}(h:min a.length b.length<=k):(a.drop k).zip (b.drop k)=[]:=by
 rcases b7 k a.length with h1|h1;case inr=>rw[oz h1];rfl
 ·rw[oz (l:=b) (by omega),List.zip_nil_right]
theorem tZ(h:Hp)(w:World)(ax:ao h w)(cC cD:Value)(x y:List aB)(hx:gy h cC x)(hy:gy h cD y)(aS:WF x)(aT:WF y)(dC:x.length<=262144)(dD:y.length<=262144):Calls ai 107 #[cC,cD] w fun e w'=>∃v,e= .returned v/\∃h',St w.heap.size h w h' w'/\Lk h' v (dr x y):=by
 have cX:=aa hx;have cY:=aa hy;obtain⟨bx,eB,dY,rfl,er,cj⟩:=hx.gA aS.pos;obtain⟨dO,eC,dZ,rfl,eA,cl⟩:=hy.gA aT.pos;have bE:=aa (fun w' ax=>cj w' ax);have bG:=aa (fun w' ax=>cl w' ax);have a5:=aa ax;have cV:=aa (tY aS aT);have dg:=aa aS;have dh:=aa aT;have cA:=aS.pos;have cB:=aT.pos;have ey:x.length*y.length<=262144*262144:=Nat.mul_le_mul dC dD;have cF:=aa (oS (k:=jQ x y) cA cB);generalize bT:x.length*y.length=N at*;have a8:=aa bT;have bC:Hid (ao h (w.alloc (au #[ag none 0 0,af ae 0,ay false,af ae 0,ag none 0 0] 76))):=a5.out.alloc _;clear hx hy cj cl aS aT ax bT;go_in;go_wp2_with fail;have hz:(w.alloc (au #[ag none 0 0,af ae 0,ay false,af ae 0,ag none 0 0] 76)).heap.size=w.heap.size+1:=by simp
 have a9:=aa hz;clear hz;generalize bY:w.alloc (au #[ag none 0 0,af ae 0,ay false,af ae 0,ag none 0 0] 76)=w0 at*;have J:=aa bY;clear bY;go_loopw[5,6] (fun v i wr=>∃(j:Nat) (l:List (Int×Int)),i=af ae j/\St w0.heap.size h w0 h wr/\lO wr h w0.heap.size v l/\Good x y (jQ x y) l j/\Hid (ez (jQ x y) N (N+1-j) l j=ez (jQ x y) N (N+1) [(0,0)] 0)) (fun _ i _=>N-(intOf i).toNat);case atStart=>exact⟨0,[(0,0)],rfl,(St.refl bC.out).alloc _,by rw[<-a9.out];exact oP (w:=w0) bC.out (kI _) [af ae 0,af ae 0] 1 2 79 (by simp[ew]) rfl,cF.out,rfl⟩
 case round=>
  obtain⟨ak,rfl⟩:∃ak:World,ak=wr:=⟨_,rfl⟩
  obtain⟨j,l,rfl,S,am,ab,R⟩:=hrel;have ej:=ab.le;have du:=ab.len;rw[a8.out]at du;by_cases bq:j<l.length
  ·obtain⟨g,di,rfl,ec,ed,ei,dQ,c1⟩:=am.open j bq;obtain⟨cu,cv,cw,cz⟩:=ab.inr l[j] (by simp);have bB:=aa (pL cV.out ab bq);have cS:Hid (l++jQ x y l[j]=l++((nd x l[j].1).kids.zip (nd y l[j].2).kids).filter fun q=>decide ((nd x q.1).kind=(nd y q.2).kind)):=rfl;have cQ:=aa (fun dn hf=>pM (k:=jQ x y) (budget:=N) (f:=N+1-j) bq dn hf);generalize l[j]=p at*;obtain⟨d8,aP⟩:=bE.out ak S.I;obtain⟨ea,aQ⟩:=bG.out ak S.I;obtain⟨dF,dR,-,-,-,d2,-,bd,-⟩:=aP p.1 cu cv;obtain⟨dG,dU,-,-,-,d3,-,bm,-⟩:=aQ p.2 cw cz;have ek:=bd.1.len.1;have el:=bm.1.len.1;have S':=aa S;have aN:=aa am;have bA:=aa ab;have cG:=aa bd;have cM:=aa bm;have dm:=bB.out.len;rw[a8.out]at dm;generalize dk:l++jQ x y p=T at*;clear aP aQ S am ab bd bm dk;have eD:(0:Int)<=(j:Int):=by omega
   have eE:(j:Int)<(l.length:Int):=by omega
   go_wp2_with fail;go_quiet(fail);go_wp2_with fail;have ch:min ((nd x p.1).kids.length:Int) ((nd y p.2).kids.length:Int)=((min (nd x p.1).kids.length (nd y p.2).kids.length:Nat):Int):=by omega
   rw[ch];clear ch;have hmx:min (nd x p.1).kids.length (nd y p.2).kids.length<=(nd x p.1).kids.length:=by omega
   have en:min (nd x p.1).kids.length (nd y p.2).kids.length<=(nd y p.2).kids.length:=by omega
   have ci:(min (nd x p.1).kids.length (nd y p.2).kids.length:Nat)=min (nd x p.1).kids.length (nd y p.2).kids.length:=rfl;have dE:=aa ci;clear ci;generalize cf:min (nd x p.1).kids.length (nd y p.2).kids.length=a4 at*;have cN:=aa cf;clear cf;have c6:Hid (KV h w0 (ak.drewN nq) g (ag (some ⟨g,0,none⟩) l.length di) l (ak.drewN nq)):=⟨S'.out.drewN _,aN.out.drewN _,kC _ _,.inl rfl⟩
   go_loopw[5,44] (fun v i wr=>∃(k:Nat) (m:List (Int×Int)),k<=a4/\i=af ae k/\KV h w0 (ak.drewN nq) g v m wr/\Hid (m++(((nd x p.1).kids.drop k).zip ((nd y p.2).kids.drop k)).filter (fun q=>decide ((nd x q.1).kind=(nd y q.2).kind))=T)) (fun _ i _=>a4-(intOf i).toNat);case atStart=>exact⟨0,l,aW _,rfl,c6.out,cS.out.symm⟩
   case round=>
    obtain⟨k,m,ba,rfl,O,RT⟩:=hrel;obtain⟨dN,dX,rfl⟩:=Ow.shape O.own;by_cases em:k<a4
    ·have bg:k<(nd x p.1).kids.length:=by omega
     have bp:k<(nd y p.2).kids.length:=by omega
     obtain⟨bO,cn,dT,cd,-,a1⟩:=cG.out.gA (by omega);simp only[bU,true_and]at cd;obtain⟨rfl,rfl⟩:=cd;have d1:=(a1 wr O.st.I).2 k bg;have d6:=(a1 wr O.st.I).1;obtain⟨bR,co,dW,ce,-,a2⟩:=cM.out.gA (by omega);simp only[bU,true_and]at ce;obtain⟨rfl,rfl⟩:=ce;have dd:=(a2 wr O.st.I).2 k bp;have d7:=(a2 wr O.st.I).1;have cU:Hid (∀W,ao h W->W.cell? ⟨bO,cn+k,none⟩=some (af ae (nd x p.1).kids[k])/\W.cell? ⟨bR,co+k,none⟩=some (af ae (nd y p.2).kids[k])):=fun W bX=>⟨(a1 W bX).2 k bg,(a2 W bX).2 k bp⟩
     have b9:Hid ((nd x p.1).kids[k]∈(nd x p.1).kids):=by unfold Hid;simp
     have cc:Hid ((nd y p.2).kids[k]∈(nd y p.2).kids):=by unfold Hid;simp
     have Y:=RT.out;rw[Em bg bp]at Y;generalize dp:(nd x p.1).kids[k]=c at*;generalize dt:(nd y p.2).kids[k]=d at*;obtain⟨r1,r2,-,-⟩:=eK dg.out cu cv b9.out;obtain⟨dA,dB,-,-⟩:=eK dh.out cw cz cc.out;obtain⟨d9,aP⟩:=bE.out wr O.st.I;obtain⟨eb,aQ⟩:=bG.out wr O.st.I;obtain⟨-,-,tC,-⟩:=aP c r1 r2;obtain⟨-,-,d4,-⟩:=aQ d dA dB;have aV:=aa O;have eF:(0:Int)<=(k:Int):=by omega
     have eG:(k:Int)<((nd x p.1).kids.length:Int):=by omega
     have eH:(k:Int)<((nd y p.2).kids.length:Int):=by omega
     clear aP aQ a1 a2 dp dt b9 cc O RT;by_cases aL:(nd x c).kind=(nd y d).kind
     ·rw[List.filter_cons_of_pos (by simpa using aL)]at Y;have g1:=kO aL;have aX:Hid ((m++[(c,d)])++(((nd x p.1).kids.drop (k+1)).zip ((nd y p.2).kids.drop (k+1))).filter (fun q=>decide ((nd x q.1).kind=(nd y q.2).kind))=T):=by unfold Hid;rw[fI];exact Y
      have eo:m.length+1<=T.length:=by rw[<-aX.out];simp
      clear aL Y;go_wp2_with fail;go_quiet(fail);go_wp2_with fail;go_region_held3(fun w'=>w'.cell? ⟨bO,cn+k,none⟩=some (af ae c)/\w'.cell? ⟨bR,co+k,none⟩=some (af ae d)) (first|go_keep|exact cU.out _ bv.I) ((refine gS q3 (by rfl) _ _ (by rfl) ((aV.out.st.alloc _).drewN _) _ m.length _ (by rfl) ((aV.out.own.alloc _).drewN _) ⟨wr.heap.size,0,none⟩ 1 1 (bV (c,d)) (by rfl) (by rfl) (cK _ _ _ _ (by simp)) (cm _ rfl) (by omega) (by omega) ?_;intro d5 cg w3 bv ct bS bN))
      go_wp2_with fail;have cZ:=aa ((aV.out.drewN _).KZ bv ct bS bN);clear bv ct bS bN;go_roundw;case rel=>exact⟨k+1,m++[(c,d)],by omega,by go_num,cZ.out,aX⟩
      case measure=>simp[intOf];omega
     ·rw[List.filter_cons_of_neg (by simpa using aL)]at Y;have g1:=kK aL;have aX:=aa Y;clear aL Y;go_wp2_with fail;go_quiet(fail);go_wp2_with fail;go_roundw;case rel=>exact⟨k+1,m,by omega,by go_num,aV.out.drewN _,aX⟩
      case measure=>simp[intOf];omega
    ·obtain rfl:k=a4:=by omega
     have Y:=RT.out;rw[En (by rw[cN.out];exact kI _)]at Y;simp only[List.filter_nil,List.append_nil]at Y;subst Y;go_wp2_with fail;go_roundw;case rel=>exact⟨j+1,m,by go_num,O.st,O.own,bB.out,by unfold Hid;rw[<-R.out,cQ.out (by omega) (by omega)];congr 1⟩
     case measure=>simp[intOf];omega
  ·obtain rfl:j=l.length:=by omega
   obtain⟨al,aY,rfl⟩:=Ow.shape am;have hR:Hid (oW x y=l):=by unfold Hid oW;rw[a8.out,<-R.out,pN (kI _) (by omega)];rfl
   have S':=aa S;have aN:=aa am;have bA:=aa ab;clear S am ab R;go_wp2_with fail;refine(tA h _ S'.out.I w0.heap.size _ l (by omega) aN.out).mono ?_;rintro e cE ⟨rfl,gr,own⟩;have bL:=S'.out.grown gr (fun k ba=>⟨(aN.out.lt k ba).1,aN.out.free k ba⟩);have a3:(cq l).length=l.length:=List.length_mergeSort _;have bH:jp (h.fr w0.heap.size cE) (ag al l.length aY) (cq l):=by refine⟨by rw[a3];exact Ow.sl own (by omega),fun q dv=> ?_⟩;have:=bA.out.inr q ((List.mergeSort_perm l _).mem_iff.1 dv);unfold bZ at this;unfold aG;omega
   have bz:=bL.fr;generalize h.fr w0.heap.size cE=aZ at*;have aM:=aa bz;have bJ:=aa bH;clear bL bz bH gr own;go_wp2_with fail;refine(Eo aZ _ aM.out.I _ _ _ x y (cq l) (cX.out.mono aM.out.le) (cY.out.mono aM.out.le) cA cB (by omega) (by omega) bJ.out).mono ?_;rintro e aj ⟨rfl,b0⟩;have G:=aa (aM.out.same b0);have ep:w.heap.size<aj.heap.size:=by have:=G.out.below.size;rw[a9.out]at this;omega
   have dw:aj.cell? ⟨w.heap.size,0,none⟩=some (ag none 0 0):=(fS J.out G.out.below 0).1;have k1:aj.cell? ⟨w.heap.size,1,none⟩=some (af ae 0):=(fS J.out G.out.below 1).1;have k2:aj.cell? ⟨w.heap.size,2,none⟩=some (ay false):=(fS J.out G.out.below 2).1;have k3:aj.cell? ⟨w.heap.size,3,none⟩=some (af ae 0):=(fS J.out G.out.below 3).1;have k4:aj.cell? ⟨w.heap.size,4,none⟩=some (ag none 0 0):=(fS J.out G.out.below 4).1;have eI:=(fS J.out G.out.below 0).2;have eJ:=(fS J.out G.out.below 1).2;have eL:=(fS J.out G.out.below 2).2;have eM:=(fS J.out G.out.below 3).2;have eN:=(fS J.out G.out.below 4).2;clear b0;go_wp2_with fail;have aO:aZ w.heap.size=none:=by rw[aM.out.aI _ (by rw[a9.out];omega)];exact bI a5.out _ (kI _)
   have c8:St w.heap.size h w aZ aj:=by have h1:=(St.refl a5.out).alloc (au #[ag none 0 0,af ae 0,ay false,af ae 0,ag none 0 0] 76);rw[J.out]at h1;exact h1.call G.out
   refine bodyPost_ret (v:= .agg #[ag al l.length aY,af ae ((dP x y (cq l)).getD 0),ay false,af ae (max ((x.length:Int)-y.length) (-((x.length:Int)-y.length))),ag none 0 0]) (by simp[results,Tryz.results107,go_sem,dw,k1,k2,k3,k4]) rfl ?_;have c9:=((((c8.setCell (p:=⟨w.heap.size,0,none⟩) (kI _) aO (ag al l.length aY)).setCell (p:=⟨w.heap.size,1,none⟩) (kI _) aO (af ae ((dP x y (cq l)).getD 0))).setCell (p:=⟨w.heap.size,2,none⟩) (kI _) aO (ay false)).setCell (p:=⟨w.heap.size,3,none⟩) (kI _) aO (af ae (max ((x.length:Int)-y.length) (-((x.length:Int)-y.length))))).setCell (p:=⟨w.heap.size,4,none⟩) (kI _) aO (ag none 0 0);refine⟨_,rfl,aZ,c9,al,aY,none,0,?_,?_,?_,?_,?_⟩;·simp[dr,hR.out,a3]
   ·simp only[dr,hR.out];exact El x y _ (by omega) (by omega) (by rw[a3];omega)
   ·simp only[dr];unfold aG;omega
   ·simp only[dr,hR.out,a3];exact bJ.out
   ·exact⟨[],Sl.nil _ _ _ _,by simp[dr,aJ]⟩
theorem yg(w:World)(ab sT ty O:TypeId)(k g o J aj:Nat)(a:Addr)(Y aL:Nat)(G:Array Value)(t:TypeId)(cs:List Value)(aJ:ai.underlying ab=some (.slice O))(hs:(ai.info? O).map (·.size)=some k)(am:w.heap[g]? =some (.cells G t (0,0)))(hn:cs.length=fK Y J*k)(aB:∀j v,cs[j]? =some v->w.cell? (a.add j)=some v)(ak:o+cs.length<=G.size)(h1:∀v∈cs,v.oneCell'=true):
  (vX #[ab,sT] ty #[ag (some ⟨g,o,none⟩) J aj,ag (some a) Y aL]).run ai w= .ok (goInt (fK Y J)) (w.setRow g (G.toList.take o++cs++G.toList.drop (o+cs.length)).toArray):=by
 have ax:=run_loadCells_list (P:=ai) w a cs aB;have aG:=run_storeCells_at ai g o t cs 0 G w am (by simpa using ak) h1;cases hq:ai.info? O with
 |none=>simp[hq]at hs
 |some i=>
  have ao:i.size=k:=by simpa[hq]using hs
  simp[vX,run_underlying aJ,Bw,Bz,sizeOf,typeInfo,hq,ao,<-hn,ax,aG]
def fi(e z:List Value)(n m:Nat):List Value:=(aA m e).flatten++(aA (n-m) z).flatten
theorem lY(e:List Value)(m:Nat):(aA m e).flatten.length=m*e.length:=by simp[List.length_flatten]
theorem uz(e:List Value)(a b:Nat):(aA (a+b) e).flatten=(aA a e).flatten++(aA b e).flatten:=by rw[<-List.replicate_append_replicate,List.flatten_append]
theorem yh{e z:List Value}{k n m:Nat}(he:e.length=k)(hz:z.length=k)(hm:m<=n):(fi e z n m).length=n*k:=by unfold fi;rw[List.length_append,lY,lY,he,hz,<-gN];congr 1;omega
theorem yi{e z:List Value}{k n m d:Nat}(he:e.length=k)(hz:z.length=k)(hd:m+d<=n):(fi e z n m).take (m*k)++((aA d e).flatten++(fi e z n m).drop (m*k+(aA d e).flatten.length))=fi e z n (m+d):=by
 rw[<-fI];have J:(aA m e).flatten.length=m*k:=by rw[lY,he]
 have l2:(aA d e).flatten.length=d*k:=by rw[lY,he]
 have O:(aA d z).flatten.length=d*k:=by rw[lY,hz]
 have G:n-m=d+(n-(m+d)):=by omega
 unfold fi;rw[l2,List.take_append_of_le_length (by omega),iG (by omega),<-List.drop_drop,B5 (by omega),oz (by omega:(aA m e).flatten.length<=m*k),ji,G,uz,B5 (by omega),oz (by omega:(aA d z).flatten.length<=d*k),ji,uz]
theorem Fw{e z:List Value}{n m d:Nat}(hd:d<=m){j:Nat}{v:Value}(h:(aA d e).flatten[j]? =some v):(fi e z n m)[j]? =some v:=by
 have hj:j<(aA d e).flatten.length:=by
  rcases b7 j (aA d e).flatten.length with q|q;·exact q
  ·rw[List.getElem?_eq_none q]at h;cases h
 unfold fi;rw[show m=d+(m-d) by omega,uz,fI,jD hj,h]
theorem yj{e:List Value}(h1:∀v∈e,v.oneCell'=true)(d:Nat):∀v∈(aA d e).flatten,v.oneCell'=true:=by intro v hv;rw[List.mem_flatten]at hv;obtain⟨l,G,hv⟩:=hv;obtain⟨-,rfl⟩:=List.mem_replicate.1 G;exact h1 v hv
theorem yk(z:List Value)(n:Nat):(eS z.toArray (n*z.length)).toList=(aA n z).flatten:=by
 rcases et z.length with hz|hz;·rw[List.eq_nil_of_length_eq_zero hz];simp[eS]
 apply List.ext_getElem?;intro i;induction n generalizing i with
 |zero=>simp[eS]
 |succ n O=>
  rw[List.replicate_succ,List.flatten_cons];by_cases h:i<z.length;·rw[jD h];have h2:i<(n+1)*z.length:=Nat.lt_of_lt_of_le h (by rw[gN,Ld];omega);simp[eS,h2,Nat.mod_eq_of_lt h,h]
  ·rw[List.getElem?_append_right (by omega),<-O];by_cases h2:i<(n+1)*z.length
   ·have G:i-z.length<n*z.length:=by rw[gN,Ld]at h2;omega
    have J:(i-z.length)%z.length=i%z.length:=(Nat.mod_eq_sub_mod (by omega)).symm;simp[eS,h2,G,J]
   ·have G:¬i-z.length<n*z.length:=by rw[gN,Ld]at h2;omega
    simp[eS,h2,G]
theorem Ow.exact{w:World}{h:Hp}{B:Nat}{e:TypeId}{k g n:Nat}{xs:List Value}(o:Ow w h B e k (ag (some ⟨g,0,none⟩) n n) n xs):w.heap[g]? =some (.cells xs.toArray e (0,0)):=by
 rcases o.row with⟨h1,⟨hv,rfl⟩|⟨g',Y,ab,hv,aj,O,am,ak,J,G⟩⟩;·simp at hv
 ·simp only[bU,aC,cx,and_true,true_and]at hv;obtain⟨rfl,rfl⟩:=hv;rw[O];rw[iG (by simp[J])]at G;rw[<-G]
theorem Ow.uA{w:World}{h:Hp}{B:Nat}{e:TypeId}{k g n:Nat}{xs:List Value}(O:w.heap[g]? =some (.cells xs.toArray e (0,0)))(J:B<=g)(hf:h g=none)(hn:n<=ew)(G:xs.length=n*k):Ow w h B e k (ag (some ⟨g,0,none⟩) n n) n xs:=
 ⟨⟨G,.inr ⟨g,n,xs.toArray,rfl,J,O,kI _,hn,by simpa using G,iG (by simp[G])⟩⟩,fun q Y=>by obtain rfl:=aU Y;exact hf⟩
theorem Fx{w:World}{g:Nat}{xs:List Value}{e:TypeId}(G:w.heap[g]? =some (.cells xs.toArray e (0,0)))(i:Nat):w.cell? ⟨g,i,none⟩=xs[i]? :=by simp[World.cell?,G]
theorem Fy{w w2:World}{h:Hp}{B:Nat}{T:TypeId}{k g n b:Nat}{e z:List Value}(he:e.length=k)(hz:z.length=k)(own:Ow w2 h B T k (ag (some ⟨g,0,none⟩) n n) n (aA n z).flatten)(O:b<w.heap.size)(st:Below w.heap.size w w2)(hc:∀j v,e[j]? =some v->w.cell? ⟨b,j,none⟩=some v):w2.heap[g]? =some (.cells (fi e z n 0).toArray T (0,0))/\(∀j v,(aA (fK 1 n) e).flatten[j]? =some v->w2.cell? ((⟨b,0,none⟩:Addr).add j)=some v)/\(aA (fK 1 n) e).flatten.length=fK 1 n*k/\0+(aA (fK 1 n) e).flatten.length<=(fi e z n 0).length:=by
 have G:(aA (fK 1 n) e).flatten.length=fK 1 n*k:=by rw[lY,he]
 refine⟨?_,?_,G,?_⟩;·rw[show fi e z n 0=(aA n z).flatten by simp[fi]];exact Ow.exact own
 ·intro j v hv
  have Y:e[j]? =some v:=by
   rcases et n with rfl|J;·simp at hv
   ·rw[show fK 1 n=1 from sN J]at hv;simpa using hv
  rw[sw,st.cell O,cO];exact hc j v Y
 ·rw[G,yh he hz (aW _),cO];exact mq _ (sO _ _)
theorem yl{w w2:World}{h:Hp}{B:Nat}{S T:TypeId}{k g n b:Nat}{e z:List Value}(am:ai.underlying S=some (.slice T))(hs:(ai.info? T).map (·.size)=some k)(he:e.length=k)(hz:z.length=k)(h1:∀v∈e,v.oneCell'=true)(aj:w.heap.size<=g)(own:Ow w2 h B T k (ag (some ⟨g,0,none⟩) n n) n (aA n z).flatten)(ab:b<w.heap.size)(st:Below w.heap.size w w2)(hc:∀j v,e[j]? =some v->w.cell? ⟨b,j,none⟩=some v):∃d w3,d=fK 1 n/\(∀ty,(vX #[S,S] ty #[ag (some ⟨g,0,none⟩) n n,ag (some ⟨b,0,none⟩) 1 1]).run ai w2= .ok (af ae (d:Int)) w3)/\w3.heap[g]? =some (.cells (fi e z n d).toArray T (0,0))/\Below w.heap.size w w3/\g<w3.heap.size:=by
 obtain⟨G,J,O,Y⟩:=Fy he hz own ab st hc;have ak:=(own.lt g rfl).2;have nx:=yi (e:=e) (z:=z) (k:=k) (n:=n) (m:=0) (d:=fK 1 n) he hz (by rw[cO];exact sO _ _);rw[Nat.zero_mul,cO (fK 1 n),<-fI]at nx;refine⟨_,_,rfl,fun ty=>yg w2 S S ty T k g 0 n n ⟨b,0,none⟩ 1 1 _ T (aA (fK 1 n) e).flatten am hs G O J (by simpa using Y) (yj h1 _),?_,?_,?_⟩;·simp only[]at nx⊢;rw[nx];simpa using setRow_heap w2 g _ _ T _ G
 ·exact below_setRow st aj _
 ·simpa[World.setRow]using ak
theorem ym{w wr:World}{S T:TypeId}{k g n m:Nat}{e z:List Value}(am:ai.underlying S=some (.slice T))(hs:(ai.info? T).map (·.size)=some k)(he:e.length=k)(hz:z.length=k)(h1:∀v∈e,v.oneCell'=true)(aj:w.heap.size<=g)(hm:m<n)(hr:wr.heap[g]? =some (.cells (fi e z n m).toArray T (0,0)))(_st:Below w.heap.size w wr)(ak:g<wr.heap.size)(W:World)(O:W.heap=wr.heap)(ab:Below w.heap.size w W):∃d G,d=fK m (n-m)/\(∀ty,(vX #[S,S] ty #[ag (some ⟨g,m*k,none⟩) (n-m) (n-m),ag (some ⟨g,0,none⟩) m n]).run ai W= .ok (af ae (d:Int)) G)/\G.heap[g]? =some (.cells (fi e z n (m+d)).toArray T (0,0))/\Below w.heap.size w G/\g<G.heap.size:=by
 have J:W.heap[g]? =some (.cells (fi e z n m).toArray T (0,0)):=by rw[O];exact hr
 have hd:fK m (n-m)<=m:=Nat.min_le_left _ _;have ao:fK m (n-m)<=n-m:=sO _ _;have nx:=yi (e:=e) (z:=z) (k:=k) (n:=n) (m:=m) (d:=fK m (n-m)) he hz (by omega);rw[<-fI]at nx;have Y:(aA (fK m (n-m)) e).flatten.length=fK m (n-m)*k:=by rw[lY,he]
 refine⟨_,_,rfl,fun ty=>yg W S S ty T k g (m*k) (n-m) (n-m) ⟨g,0,none⟩ m n _ T (aA (fK m (n-m)) e).flatten am hs J Y (fun j v hj=> ?_) ?_ (yj h1 _),?_,?_,?_⟩;·rw[sw,Fx J,cO];exact Fw hd hj
 ·rw[Y];have:=yh (e:=e) (z:=z) (n:=n) (m:=m) he hz (by omega);simp only[List.size_toArray];rw[this,<-gN];exact mq _ (by omega)
 ·simp only[]at nx⊢;rw[nx];simpa using setRow_heap W g _ _ T _ J
 ·exact below_setRow ab aj _
 ·simpa[World.setRow,O]using ak
theorem yn(h:Hp)(w:World)(aM:ao h w)(b:Nat)(e:List Value)(he:e.length=1)(h1:∀v∈e,v.oneCell'=true)(aG:∀j v,e[j]? =some v->w.cell? ⟨b,j,none⟩=some v)(a8:b<w.heap.size)(n:Nat)(hn:n<=1000000000):Calls ai 142 #[ag (some ⟨b,0,none⟩) 1 1,af ae n] w fun e' w'=>e'= .returned (ag (some ⟨w.heap.size,0,none⟩) n n)/\Below w.heap.size w w'/\Ow w' h w.heap.size 3 1 (ag (some ⟨w.heap.size,0,none⟩) n n) n (aA n e).flatten:=by
 have a1:=aa aM;have aY:=aa aG;have am:=aa h1;have Y:=aa he;have c1:(1*n/18446744073709551616:Nat)=0:=by omega
 have c2:(1*n%18446744073709551616:Nat)=n:=by omega
 have c3:IntKind.u64.wrap (n:Int)=n:=by rw[Ks];omega
 have c4:ae.wrap (n:Int)=n:=bA (by omega);have c5:¬((n:Int)<0):=by omega
 have bd:¬((9223372036854775807:Int)<n):=by omega
 clear aM aG h1 he;go_in;go_wp2_with fail;refine(Any.bits_Mul Tryz.mulL 1 n (by omega) (by omega) _).mono ?_;rintro e' w1 ⟨rfl,a9⟩;obtain rfl:=a9.symm;rw[c1,c2];go_wp2_with(at_make;refine jk fP rfl _ _ rfl (St.refl a1.out) ae ae _ _ n rfl rfl (by go_num) (by go_num) (by omega) ?_;intro w2 aQ aO a5;have J:=aO;rw[show(1:Nat)=([af ae 0]:List Value).length from rfl,yk]at J;have aT:=aa (J.free _ rfl);obtain⟨d,w3,hd,cp,aP,b3,a3⟩:=yl (S:=34) (k:=1) sD (by kernel_rfl) Y.out rfl am.out (kI _) J a8 aQ.below aY.out;have aV:=aa aP;have aS:=aa b3;have aZ:=aa hd;clear aQ aO a5 J aP b3 hd)
 have aJ:d<=n/\(0<n->0<d):=by
  have:=aZ.out;rcases et n with ab|ab;·subst ab;simp at this;omega
  ·rw[show fK 1 n=1 from sN ab]at this;omega
 go_loopw[8] (fun t wr=>∃(m:Nat),m<=n/\(0<n->0<m)/\t=af ae m/\wr.heap[w.heap.size]? =some (.cells (fi e [af ae 0] n m).toArray 3 (0,0))/\Below w.heap.size w wr/\w.heap.size<wr.heap.size) (fun t _=>n-(intOf t).toNat);case atStart=>exact⟨d,aJ.1,aJ.2,rfl,aV.out,aS.out,a3⟩
 case round=>
  obtain⟨m,bm,aN,rfl,R,ak,a4⟩:=hrel;have ax:=aa R;have O:=aa ak;clear R ak cp;by_cases hm:m<n
  ·obtain⟨G,ba,aL,cp,aB,aj,g2⟩:=ym (S:=34) (k:=1) sD (by kernel_rfl) Y.out (z:=[af ae 0]) rfl am.out (kI _) hm ax.out O.out a4 wr.drew rfl O.out.drew;have bg:G<=n-m/\0<G:=by subst aL;exact⟨sO _ _,Nat.lt_min.2 ⟨aN (by omega),by omega⟩⟩
   have a2:=aa aB;have aX:=aa aj;have bq:(m:Int)<(n:Int):=by omega
   have bv:(m:Int)<=(n:Int):=by omega
   have bz:(0:Int)<=(m:Int):=by omega
   have bB:ae.wrap ((m:Int)+G)=(m:Int)+G:=bA (by omega);have bp:¬n=m:=by omega
   try simp only[La]at cp
   clear aB aj aL aN;go_wp2_with fail;go_region
   all_goals
    go_wp2_with fail;go_roundw;case rel=>exact⟨m+G,by omega,fun _=>by omega,by go_num,a2.out,aX.out,g2⟩
    case measure=>simp[intOf];omega
  ·obtain rfl:n=m:=by omega
   go_wp2_with fail;go_ret;refine⟨rfl,O.out,?_⟩;have:=ax.out;rw[show fi e [af ae 0] n n=(aA n e).flatten by simp[fi]]at this;exact Ow.uA this (kI _) aT.out (by simp only[ew];omega) (by rw[lY,Y.out])
theorem Fz(h:Hp)(w:World)(aM:ao h w)(b:Nat)(e:List Value)(he:e.length=2)(h1:∀v∈e,v.oneCell'=true)(aG:∀j v,e[j]? =some v->w.cell? ⟨b,j,none⟩=some v)(a8:b<w.heap.size)(n:Nat)(hn:n<=1000000000):Calls ai 24 #[ag (some ⟨b,0,none⟩) 1 1,af ae n] w fun e' w'=>e'= .returned (ag (some ⟨w.heap.size,0,none⟩) n n)/\Below w.heap.size w w'/\Ow w' h w.heap.size 43 2 (ag (some ⟨w.heap.size,0,none⟩) n n) n (aA n e).flatten:=by
 have a1:=aa aM;have aY:=aa aG;have am:=aa h1;have Y:=aa he;have c1:(1*n/18446744073709551616:Nat)=0:=by omega
 have c2:(1*n%18446744073709551616:Nat)=n:=by omega
 have c3:IntKind.u64.wrap (n:Int)=n:=by rw[Ks];omega
 have c4:ae.wrap (n:Int)=n:=bA (by omega);have c5:¬((n:Int)<0):=by omega
 have bd:¬((9223372036854775807:Int)<n):=by omega
 clear aM aG h1 he;go_in;go_wp2_with fail;refine(Any.bits_Mul Tryz.mulL 1 n (by omega) (by omega) _).mono ?_;rintro e' w1 ⟨rfl,a9⟩;obtain rfl:=a9.symm;rw[c1,c2];go_wp2_with(at_make;refine jk EW rfl _ _ rfl (St.refl a1.out) ae ae _ _ n rfl rfl (by go_num) (by go_num) (by omega) ?_;intro w2 aQ aO a5;have J:=aO;rw[show(2:Nat)=([af ae 0,af ae 0]:List Value).length from rfl,yk]at J;have aT:=aa (J.free _ rfl);obtain⟨d,w3,hd,cp,aP,b3,a3⟩:=yl (S:=40) (k:=2) B2 (by kernel_rfl) Y.out rfl am.out (kI _) J a8 aQ.below aY.out;have aV:=aa aP;have aS:=aa b3;have aZ:=aa hd;clear aQ aO a5 J aP b3 hd)
 have aJ:d<=n/\(0<n->0<d):=by
  have:=aZ.out;rcases et n with ab|ab;·subst ab;simp at this;omega
  ·rw[show fK 1 n=1 from sN ab]at this;omega
 go_loopw[8] (fun t wr=>∃(m:Nat),m<=n/\(0<n->0<m)/\t=af ae m/\wr.heap[w.heap.size]? =some (.cells (fi e [af ae 0,af ae 0] n m).toArray 43 (0,0))/\Below w.heap.size w wr/\w.heap.size<wr.heap.size) (fun t _=>n-(intOf t).toNat);case atStart=>exact⟨d,aJ.1,aJ.2,rfl,aV.out,aS.out,a3⟩
 case round=>
  obtain⟨m,bm,aN,rfl,R,ak,a4⟩:=hrel;have ax:=aa R;have O:=aa ak;clear R ak cp;by_cases hm:m<n
  ·obtain⟨G,ba,aL,cp,aB,aj,g2⟩:=ym (S:=40) (k:=2) B2 (by kernel_rfl) Y.out (z:=[af ae 0,af ae 0]) rfl am.out (kI _) hm ax.out O.out a4 wr.drew rfl O.out.drew;have bg:G<=n-m/\0<G:=by subst aL;exact⟨sO _ _,Nat.lt_min.2 ⟨aN (by omega),by omega⟩⟩
   have a2:=aa aB;have aX:=aa aj;have bq:(m:Int)<(n:Int):=by omega
   have bv:(m:Int)<=(n:Int):=by omega
   have bz:(0:Int)<=(m:Int):=by omega
   have bB:ae.wrap ((m:Int)+G)=(m:Int)+G:=bA (by omega);have bp:¬n=m:=by omega
   try simp only[La]at cp
   clear aB aj aL aN;go_wp2_with fail;go_region
   all_goals
    go_wp2_with fail;go_roundw;case rel=>exact⟨m+G,by omega,fun _=>by omega,by go_num,a2.out,aX.out,g2⟩
    case measure=>simp[intOf];omega
  ·obtain rfl:n=m:=by omega
   go_wp2_with fail;go_ret;refine⟨rfl,O.out,?_⟩;have:=ax.out;rw[show fi e [af ae 0,af ae 0] n n=(aA n e).flatten by simp[fi]]at this;exact Ow.uA this (kI _) aT.out (by simp only[ew];omega) (by rw[lY,Y.out])
end Go.Proofs.YtdplggpbgommnaaGreatDoor
