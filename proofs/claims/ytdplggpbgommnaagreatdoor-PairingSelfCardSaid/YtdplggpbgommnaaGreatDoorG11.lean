/- matching.positional. -/
import Derived.Test.YtdplggpbgommnaaGreatDoorG09
import Derived.Test.YtdplggpbgommnaaGreatDoorG08
import Derived.Laws.CopyOwn
open Go renaming madeCells→eS,maxLen→ew
open Go.Addr renaming add_lit→sw
open Go.Addr.mk renaming injEq→cx
open Go.Builtin renaming copy_→vX,firstCells→Bz,lenOf→Bw
open Go.IntKind renaming i64→ae,wrap_u64→Ks
open Go.Lib renaming hid→aa
open Go.Obj renaming cells→au
open Go.Proofs.Tryz renaming prog→ai,underlying34→sD,underlying40→B2
open Go.Value renaming bool→ay,int→af,slice→ag
open Go.Value.slice renaming injEq→bU
open Go.World.grownBy renaming refl→kC
open List renaming append_assoc→fI,drop_append_of_le_length→B5,drop_eq_getElem_cons→jh,drop_of_length_le→oz,getElem?_append_left→jD,nil_append→ji,of_mem_zip→BQ,pairwise_cons→fJ,replicate→aA,take_of_length_le→iG,zip_cons_cons→BS
open List.Pairwise renaming filter→vM
open Nat renaming add_mul→gN,eq_zero_or_pos→et,le_refl→an,lt_or_ge→b7,min_eq_left→sN,min_le_right→sO,min→fK,mul_le_mul_right→mq,one_mul→jj,zero_add→cO,zero_le→aW
open Option.some renaming injEq→aC,inj→aU
set_option maxRecDepth 100000
set_option maxHeartbeats 4000000
namespace Go.Proofs.YtdplggpbgommnaaGreatDoor
open Go.RowKit
def jQ(x y:List aB)(p:Int×Int):List (Int×Int):=((nd x p.1).kids.zip (nd y p.2).kids).filter fun q=>decide ((nd x q.1).kind=(nd y q.2).kind)
theorem tY{x y:List aB}(G:WF x)(hy:WF y):KF x y (jQ x y):=by
 refine⟨?_,?_⟩;·intro p A q aj;have E:=BQ (List.mem_filter.1 aj).1;obtain⟨M,O,Y,ab⟩:=eK G A.1 A.2.1 E.1;obtain⟨b1,b2,b3,ad⟩:=eK hy A.2.2.1 A.2.2.2 E.2;exact⟨⟨M,O,b1,b2⟩,Y,ab,ad⟩
 ·intro p A;have ac:=G.gU p.1.toNat _ (gV A.1 A.2.1);unfold jQ;refine vM _ ?_
  have:∀(a b:List Int),a.Pairwise (·<·)→(a.zip b).Pairwise (fun q r=>q≠r):=by
   intro a;induction a with
   |nil=>intro b _;simp
   |cons u a am=>
    intro b h;cases b with
    |nil=>simp
    |cons v b=>rw[fJ]at h;rw[BS,fJ];refine⟨fun r ak e=> ?_,am b h.2⟩;have h1:=h.1 r.1 (BQ ak).1;rw[←e]at h1;simp only at h1;omega
  exact this _ _ ac
def oW(x y:List aB):List (Int×Int):=((ez (jQ x y) (x.length*y.length) (x.length*y.length+1) [(0,0)] 0).getD [])
def dr(x y:List aB):kd:={aR:=cq (oW x y),cost:=(dP x y (cq (oW x y))).getD 0,gT:=false,a7:=max ((x.length:Int)-y.length) (-((x.length:Int)-y.length)),proof:=[]}
theorem xP(x y:List aB):∀(rest pre:List (Int×Int)) (c r:Int),gB x y pre rest c=some r→c-2*rest.length≤r∧r≤c
 |[],pre,c,r,h=>by simp only[gB,aC]at h;subst h;simp
 |p::A,pre,c,r,h=>by
  rw[gB]at h;split at h;·have:=xP x y A _ _ r h;have:=mM (nd x p.1).text (nd y p.2).text;simp only[List.length_cons];omega
  ·cases h
theorem El(x y:List aB)(l:List (Int×Int))(E:x.length≤1000000000)(hy:y.length≤1000000000)(A:l.length≤140737488355328):aG ((dP x y l).getD 0):=by
 unfold aG;cases h:dP x y l with
 |none=>simp
 |some r=>have:=xP x y l [] _ r h;simp only[Option.getD_some];omega
theorem Em{a b:List Int}{k:Nat}(h1:k<a.length)(h2:k<b.length):(a.drop k).zip (b.drop k)=(a[k],b[k])::(a.drop (k+1)).zip (b.drop (k+1)):=by rw[jh h1,jh h2,BS]
theorem En{a b:List Int}{k:Nat}(h:min a.length b.length≤k):(a.drop k).zip (b.drop k)=[]:=by
 rcases b7 k a.length with h1|h1;case inr=>rw[oz h1];rfl
 ·rw[oz (l:=b) (by omega),List.zip_nil_right]
theorem tZ(h:Hp)(w:World)(ad:ao h w)(cD cE:Value)(x y:List aB)(bp:gy h cD x)(hy:gy h cE y)(aN:WF x)(aO:WF y)(dA:x.length≤262144)(dB:y.length≤262144):Calls ai 107 #[cD,cE] w fun e w'=>∃v,e= .returned v∧∃h',St w.heap.size h w h' w'∧tg h' v (dr x y):=by
 have NX:=aa bp;have cX:=aa hy;obtain⟨bx,es,dW,rfl,ep,cj⟩:=bp.gA aN.pos;obtain⟨dG,ex,dX,rfl,er,cl⟩:=hy.gA aO.pos;have bC:=aa (fun w' ad=>cj w' ad);have bE:=aa (fun w' ad=>cl w' ad);have a2:=aa ad;have cV:=aa (tY aN aO);have c9:=aa aN;have db:=aa aO;have cB:=aN.pos;have cC:=aO.pos;have eq:x.length*y.length≤262144*262144:=Nat.mul_le_mul dA dB;have GS:=aa (oS (k:=jQ x y) cB cC);generalize bT:x.length*y.length=N at*;have a3:=aa bT;have bB:Hid (ao h (w.alloc (au #[ag none 0 0,af ae 0,ay false,af ae 0,ag none 0 0] 76))):=a2.out.alloc _;clear bp hy cj cl aN aO ad bT;go_enter Tryz.func107,Tryz.ntmps107;go_wp2_with fail;have hz:(w.alloc (au #[ag none 0 0,af ae 0,ay false,af ae 0,ag none 0 0] 76)).heap.size=w.heap.size+1:=by simp
 have a4:=aa hz;clear hz;generalize bY:w.alloc (au #[ag none 0 0,af ae 0,ay false,af ae 0,ag none 0 0] 76)=w0 at*;have E:=aa bY;clear bY;go_loopw[5,6,7,8,9,15,16,17,18,19,20,21,22,23,24,25,26,27,28,29,30,31,32,33,34,35,36,37,38,39,40,41,42,43,44,45,46,47,48,49,50,51,52,53,54,55,56,57,58,59,60,61,62,63,64,65,66,67,68,69,70,71,72,73,74,75,76] (fun v i _ _ _ _ _ _ _ _ _ _ _ _ _ _ _ _ _ _ _ _ _ _ _ _ _ _ _ _ _ _ _ _ _ _ _ _ _ _ _ _ _ _ _ _ _ _ _ _ _ _ _ _ _ _ _ _ _ _ _ _ _ _ _ _ _ wr=>∃(j:Nat) (l:List (Int×Int)),i=af ae j∧St w0.heap.size h w0 h wr∧lO wr h w0.heap.size v l∧Good x y (jQ x y) l j∧Hid (ez (jQ x y) N (N+1-j) l j=ez (jQ x y) N (N+1) [(0,0)] 0)) (fun _ i _ _ _ _ _ _ _ _ _ _ _ _ _ _ _ _ _ _ _ _ _ _ _ _ _ _ _ _ _ _ _ _ _ _ _ _ _ _ _ _ _ _ _ _ _ _ _ _ _ _ _ _ _ _ _ _ _ _ _ _ _ _ _ _ _ _=>N-(intOf i).toNat);case atStart=>exact⟨0,[(0,0)],rfl,(St.refl bB.out).alloc _,by rw[←a4.out];exact oP (w:=w0) bB.out (an _) [af ae 0,af ae 0] 1 2 79 (by simp[ew]) rfl,GS.out,rfl⟩
 case round=>
  obtain⟨ab,rfl⟩:∃ab:World,ab=wr:=⟨_,rfl⟩
  obtain⟨j,l,rfl,S,ac,O,R⟩:=hrel;have ed:=O.le;have dn:=O.len;rw[a3.out]at dn;by_cases bm:j<l.length
  ·obtain⟨g,de,rfl,ea,eb,ec,dN,c1⟩:=ac.open j bm;obtain⟨cv,cw,cz,cA⟩:=O.inr l[j] (by simp);have bA:=aa (pL cV.out O bm);have cS:Hid (l++jQ x y l[j]=l++((nd x l[j].1).kids.zip (nd y l[j].2).kids).filter fun q=>decide ((nd x q.1).kind=(nd y q.2).kind)):=rfl;have cQ:=aa (fun di dj=>pM (k:=jQ x y) (budget:=N) (f:=N+1-j) bm di dj);generalize l[j]=p at*;obtain⟨d6,aL⟩:=bC.out ab S.I;obtain⟨d8,aM⟩:=bE.out ab S.I;obtain⟨dD,dO,-,-,-,d0,-,a9,-⟩:=aL p.1 cv cw;obtain⟨dE,dR,-,-,-,d1,-,bd,-⟩:=aM p.2 cz cA;have ei:=a9.1.len.1;have ej:=bd.1.len.1;have S':=aa S;have am:=aa ac;have bz:=aa O;have cG:=aa a9;have cM:=aa bd;have dh:=bA.out.len;rw[a3.out]at dh;generalize dg:l++jQ x y p=T at*;clear aL aM S ac O a9 bd dg;have q1:(0:Int)≤(j:Int):=by omega
   have ey:(j:Int)<(l.length:Int):=by omega
   go_wp2_with fail;go_quiet(fail);go_wp2_with fail;have ch:min ((nd x p.1).kids.length:Int) ((nd y p.2).kids.length:Int)=((min (nd x p.1).kids.length (nd y p.2).kids.length:Nat):Int):=by omega
   rw[ch];clear ch;have el:min (nd x p.1).kids.length (nd y p.2).kids.length≤(nd x p.1).kids.length:=by omega
   have em:min (nd x p.1).kids.length (nd y p.2).kids.length≤(nd y p.2).kids.length:=by omega
   have ci:(min (nd x p.1).kids.length (nd y p.2).kids.length:Nat)=min (nd x p.1).kids.length (nd y p.2).kids.length:=rfl;have dC:=aa ci;clear ci;generalize cf:min (nd x p.1).kids.length (nd y p.2).kids.length=a1 at*;have cN:=aa cf;clear cf;have cZ:Hid (hS h w0 (ab.drewN nq) g (ag (some ⟨g,0,none⟩) l.length de) l (ab.drewN nq)):=⟨S'.out.drewN _,am.out.drewN _,kC _ _,.inl rfl⟩
   go_loopw[5,9,44,45,46,47,48,49,50,51,52,53,54,55,56,57,58,59,60,61,62,63,64,65,66,67,68,69,70,71,72,73,74,75,76] (fun v _ i _ _ _ _ _ _ _ _ _ _ _ _ _ _ _ _ _ _ _ _ _ _ _ _ _ _ _ _ _ _ _ _ wr=>∃(k:Nat) (m:List (Int×Int)),k≤a1∧i=af ae k∧hS h w0 (ab.drewN nq) g v m wr∧Hid (m++(((nd x p.1).kids.drop k).zip ((nd y p.2).kids.drop k)).filter (fun q=>decide ((nd x q.1).kind=(nd y q.2).kind))=T)) (fun _ _ i _ _ _ _ _ _ _ _ _ _ _ _ _ _ _ _ _ _ _ _ _ _ _ _ _ _ _ _ _ _ _ _ _=>a1-(intOf i).toNat);case atStart=>exact⟨0,l,aW _,rfl,cZ.out,cS.out.symm⟩
   case round=>
    obtain⟨k,m,a8,rfl,G,RT⟩:=hrel;obtain⟨dF,dU,rfl⟩:=Ow.shape G.own;by_cases ek:k<a1
    ·have ba:k<(nd x p.1).kids.length:=by omega
     have bg:k<(nd y p.2).kids.length:=by omega
     obtain⟨bN,cn,dQ,cd,-,aX⟩:=cG.out.gA (by omega);simp only[bU,true_and]at cd;obtain⟨rfl,rfl⟩:=cd;have dY:=(aX wr G.st.I).2 k ba;have d4:=(aX wr G.st.I).1;obtain⟨bO,co,dT,ce,-,aY⟩:=cM.out.gA (by omega);simp only[bU,true_and]at ce;obtain⟨rfl,rfl⟩:=ce;have dZ:=(aY wr G.st.I).2 k bg;have d5:=(aY wr G.st.I).1;have cU:Hid (∀W,ao h W→W.cell? ⟨bN,cn+k,none⟩=some (af ae (nd x p.1).kids[k])∧W.cell? ⟨bO,co+k,none⟩=some (af ae (nd y p.2).kids[k])):=fun W bX=>⟨(aX W bX).2 k ba,(aY W bX).2 k bg⟩
     have b9:Hid ((nd x p.1).kids[k]∈(nd x p.1).kids):=by unfold Hid;simp
     have cc:Hid ((nd y p.2).kids[k]∈(nd y p.2).kids):=by unfold Hid;simp
     have M:=RT.out;rw[Em ba bg]at M;generalize dk:(nd x p.1).kids[k]=c at*;generalize dm:(nd y p.2).kids[k]=d at*;obtain⟨dt,du,-,-⟩:=eK c9.out cv cw b9.out;obtain⟨dv,dw,-,-⟩:=eK db.out cz cA cc.out;obtain⟨d7,aL⟩:=bC.out wr G.st.I;obtain⟨d9,aM⟩:=bE.out wr G.st.I;obtain⟨-,-,tC,-⟩:=aL c dt du;obtain⟨-,-,d2,-⟩:=aM d dv dw;have aP:=aa G;have eA:(0:Int)≤(k:Int):=by omega
     have eB:(k:Int)<((nd x p.1).kids.length:Int):=by omega
     have eC:(k:Int)<((nd y p.2).kids.length:Int):=by omega
     clear aL aM aX aY dk dm b9 cc G RT;by_cases aj:(nd x c).kind=(nd y d).kind
     ·rw[List.filter_cons_of_pos (by simpa using aj)]at M;have g1:=kO aj;have aQ:Hid ((m++[(c,d)])++(((nd x p.1).kids.drop (k+1)).zip ((nd y p.2).kids.drop (k+1))).filter (fun q=>decide ((nd x q.1).kind=(nd y q.2).kind))=T):=by unfold Hid;rw[fI];exact M
      have en:m.length+1≤T.length:=by rw[←aQ.out];simp
      clear aj M;go_wp2_with fail;go_quiet(fail);go_wp2_with fail;go_region_held3(fun w'=>w'.cell? ⟨bN,cn+k,none⟩=some (af ae c)∧w'.cell? ⟨bO,co+k,none⟩=some (af ae d)) (first|go_keep|exact cU.out _ bq.I) ((refine gS q3 (by rfl) _ _ (by rfl) ((aP.out.st.alloc _).drewN _) _ m.length _ (by rfl) ((aP.out.own.alloc _).drewN _) ⟨wr.heap.size,0,none⟩ 1 1 (bV (c,d)) (by rfl) (by rfl) (cK _ _ _ _ (by simp)) (cm _ rfl) (by omega) (by omega) ?_;intro d3 cg w3 bq cu bS bL))
      go_wp2_with fail;have cY:=aa ((aP.out.drewN _).lP bq cu bS bL);clear bq cu bS bL;go_roundw;case rel=>exact⟨k+1,m++[(c,d)],by omega,by go_num,cY.out,aQ⟩
      case measure=>simp[intOf];omega
     ·rw[List.filter_cons_of_neg (by simpa using aj)]at M;have g1:=kK aj;have aQ:=aa M;clear aj M;go_wp2_with fail;go_quiet(fail);go_wp2_with fail;go_roundw;case rel=>exact⟨k+1,m,by omega,by go_num,aP.out.drewN _,aQ⟩
      case measure=>simp[intOf];omega
    ·obtain rfl:k=a1:=by omega
     have M:=RT.out;rw[En (by rw[cN.out];exact an _)]at M;simp only[List.filter_nil,List.append_nil]at M;subst M;go_wp2_with fail;go_roundw;case rel=>exact⟨j+1,m,by go_num,G.st,G.own,bA.out,by unfold Hid;rw[←R.out,cQ.out (by omega) (by omega)];congr 1⟩
     case measure=>simp[intOf];omega
  ·obtain rfl:j=l.length:=by omega
   obtain⟨aS,aT,rfl⟩:=Ow.shape ac;have a5:Hid (oW x y=l):=by unfold Hid oW;rw[a3.out,←R.out,pN (an _) (by omega)];rfl
   have S':=aa S;have am:=aa ac;have bz:=aa O;clear S ac O R;go_wp2_with fail;refine(tA h _ S'.out.I w0.heap.size _ l (by omega) am.out).mono ?_;rintro e cF ⟨rfl,bR,ct⟩;have bJ:=S'.out.grown bR (fun k a8=>⟨(am.out.lt k a8).1,am.out.free k a8⟩);have aZ:(cq l).length=l.length:=List.length_mergeSort _;have bG:jp (h.fr w0.heap.size cF) (ag aS l.length aT) (cq l):=by refine⟨by rw[aZ];exact Ow.sl ct (by omega),fun q dp=> ?_⟩;have:=bz.out.inr q ((List.mergeSort_perm l _).mem_iff.1 dp);unfold bZ at this;unfold aG;omega
   have bv:=bJ.fr;generalize h.fr w0.heap.size cF=aV at*;have ak:=aa bv;have bH:=aa bG;clear bJ bv bG bR ct;go_wp2_with fail;refine(Eo aV _ ak.out.I _ _ _ x y (cq l) (NX.out.mono ak.out.le) (cX.out.mono ak.out.le) cB cC (by omega) (by omega) bH.out).mono ?_;rintro e Y ⟨rfl,b0⟩;have A:=aa (ak.out.same b0);have eo:w.heap.size<Y.heap.size:=by have:=A.out.below.size;rw[a4.out]at this;omega
   have dq:Y.cell? ⟨w.heap.size,0,none⟩=some (ag none 0 0):=(fS E.out A.out.below 0).1;have k1:Y.cell? ⟨w.heap.size,1,none⟩=some (af ae 0):=(fS E.out A.out.below 1).1;have k2:Y.cell? ⟨w.heap.size,2,none⟩=some (ay false):=(fS E.out A.out.below 2).1;have k3:Y.cell? ⟨w.heap.size,3,none⟩=some (af ae 0):=(fS E.out A.out.below 3).1;have k4:Y.cell? ⟨w.heap.size,4,none⟩=some (ag none 0 0):=(fS E.out A.out.below 4).1;have eD:=(fS E.out A.out.below 0).2;have eE:=(fS E.out A.out.below 1).2;have eF:=(fS E.out A.out.below 2).2;have eG:=(fS E.out A.out.below 3).2;have eH:=(fS E.out A.out.below 4).2;clear b0;go_wp2_with fail;have ax:aV w.heap.size=none:=by rw[ak.out.aI _ (by rw[a4.out];omega)];exact bI a2.out _ (an _)
   have c6:St w.heap.size h w aV Y:=by have h1:=(St.refl a2.out).alloc (au #[ag none 0 0,af ae 0,ay false,af ae 0,ag none 0 0] 76);rw[E.out]at h1;exact h1.call A.out
   refine bodyPost_ret (v:= .agg #[ag aS l.length aT,af ae ((dP x y (cq l)).getD 0),ay false,af ae (max ((x.length:Int)-y.length) (-((x.length:Int)-y.length))),ag none 0 0]) (by simp[results,Tryz.results107,go_sem,dq,k1,k2,k3,k4]) rfl ?_;have c8:=((((c6.setCell (p:=⟨w.heap.size,0,none⟩) (an _) ax (ag aS l.length aT)).setCell (p:=⟨w.heap.size,1,none⟩) (an _) ax (af ae ((dP x y (cq l)).getD 0))).setCell (p:=⟨w.heap.size,2,none⟩) (an _) ax (ay false)).setCell (p:=⟨w.heap.size,3,none⟩) (an _) ax (af ae (max ((x.length:Int)-y.length) (-((x.length:Int)-y.length))))).setCell (p:=⟨w.heap.size,4,none⟩) (an _) ax (ag none 0 0);refine⟨_,rfl,aV,c8,aS,aT,none,0,?_,?_,?_,?_,?_⟩;·simp[dr,a5.out,aZ]
   ·simp only[dr,a5.out];exact El x y _ (by omega) (by omega) (by rw[aZ];omega)
   ·simp only[dr];unfold aG;omega
   ·simp only[dr,a5.out,aZ];exact bH.out
   ·exact⟨[],Sl.nil _ _ _ _,by simp[dr,aJ]⟩
theorem yg(w:World)(O sT aJ G:TypeId)(k g o E ab:Nat)(a:Addr)(M aG:Nat)(A:Array Value)(t:TypeId)(cs:List Value)(aB:ai.underlying O=some (.slice G))(Y:(ai.info? G).map (·.size)=some k)(ad:w.heap[g]? =some (.cells A t (0,0)))(am:cs.length=fK M E*k)(ao:∀j v,cs[j]? =some v→w.cell? (a.add j)=some v)(ac:o+cs.length≤A.size)(h1:∀v∈cs,v.oneCell'=true):
  (vX #[O,sT] aJ #[ag (some ⟨g,o,none⟩) E ab,ag (some a) M aG]).run ai w= .ok (goInt (fK M E)) (w.setRow g (A.toList.take o++cs++A.toList.drop (o+cs.length)).toArray):=by
 have ak:=run_loadCells_list (P:=ai) w a cs ao;have ax:=run_storeCells_at ai g o t cs 0 A w ad (by simpa using ac) h1;cases hq:ai.info? G with
 |none=>simp[hq]at Y
 |some i=>
  have aj:i.size=k:=by simpa[hq]using Y
  simp[vX,run_underlying aB,Bw,Bz,sizeOf,typeInfo,hq,aj,←am,ak,ax]
def fi(e z:List Value)(n m:Nat):List Value:=(aA m e).flatten++(aA (n-m) z).flatten
theorem lY(e:List Value)(m:Nat):(aA m e).flatten.length=m*e.length:=by simp[List.length_flatten]
theorem uz(e:List Value)(a b:Nat):(aA (a+b) e).flatten=(aA a e).flatten++(aA b e).flatten:=by rw[←List.replicate_append_replicate,List.flatten_append]
theorem yh{e z:List Value}{k n m:Nat}(A:e.length=k)(hz:z.length=k)(E:m≤n):(fi e z n m).length=n*k:=by unfold fi;rw[List.length_append,lY,lY,A,hz,←gN];congr 1;omega
theorem yi{e z:List Value}{k n m d:Nat}(A:e.length=k)(hz:z.length=k)(G:m+d≤n):(fi e z n m).take (m*k)++((aA d e).flatten++(fi e z n m).drop (m*k+(aA d e).flatten.length))=fi e z n (m+d):=by
 rw[←fI];have M:(aA m e).flatten.length=m*k:=by rw[lY,A]
 have l2:(aA d e).flatten.length=d*k:=by rw[lY,A]
 have O:(aA d z).flatten.length=d*k:=by rw[lY,hz]
 have E:n-m=d+(n-(m+d)):=by omega
 unfold fi;rw[l2,List.take_append_of_le_length (by omega),iG (by omega),←List.drop_drop,B5 (by omega),oz (by omega:(aA m e).flatten.length≤m*k),ji,E,uz,B5 (by omega),oz (by omega:(aA d z).flatten.length≤d*k),ji,uz]
theorem Fw{e z:List Value}{n m d:Nat}(A:d≤m){j:Nat}{v:Value}(h:(aA d e).flatten[j]? =some v):(fi e z n m)[j]? =some v:=by
 have hj:j<(aA d e).flatten.length:=by
  rcases b7 j (aA d e).flatten.length with q|q;·exact q
  ·rw[List.getElem?_eq_none q]at h;cases h
 unfold fi;rw[show m=d+(m-d) by omega,uz,fI,jD hj,h]
theorem yj{e:List Value}(h1:∀v∈e,v.oneCell'=true)(d:Nat):∀v∈(aA d e).flatten,v.oneCell'=true:=by intro v A;rw[List.mem_flatten]at A;obtain⟨l,E,A⟩:=A;obtain⟨-,rfl⟩:=List.mem_replicate.1 E;exact h1 v A
theorem yk(z:List Value)(n:Nat):(eS z.toArray (n*z.length)).toList=(aA n z).flatten:=by
 rcases et z.length with hz|hz;·rw[List.eq_nil_of_length_eq_zero hz];simp[eS]
 apply List.ext_getElem?;intro i;induction n generalizing i with
 |zero=>simp[eS]
 |succ n G=>
  rw[List.replicate_succ,List.flatten_cons];by_cases h:i<z.length;·rw[jD h];have h2:i<(n+1)*z.length:=Nat.lt_of_lt_of_le h (by rw[gN,jj];omega);simp[eS,h2,Nat.mod_eq_of_lt h,h]
  ·rw[List.getElem?_append_right (by omega),←G];by_cases h2:i<(n+1)*z.length
   ·have A:i-z.length<n*z.length:=by rw[gN,jj]at h2;omega
    have E:(i-z.length)%z.length=i%z.length:=(Nat.mod_eq_sub_mod (by omega)).symm;simp[eS,h2,A,E]
   ·have A:¬i-z.length<n*z.length:=by rw[gN,jj]at h2;omega
    simp[eS,h2,A]
theorem Ow.exact{w:World}{h:Hp}{B:Nat}{e:TypeId}{k g n:Nat}{xs:List Value}(o:Ow w h B e k (ag (some ⟨g,0,none⟩) n n) n xs):w.heap[g]? =some (.cells xs.toArray e (0,0)):=by
 rcases o.row with⟨h1,⟨A,rfl⟩|⟨ab,O,Y,A,ac,M,aj,ad,G,E⟩⟩;·simp at A
 ·simp only[bU,aC,cx,and_true,true_and]at A;obtain⟨rfl,rfl⟩:=A;rw[M];rw[iG (by simp[G])]at E;rw[←E]
theorem Ow.uA{w:World}{h:Hp}{B:Nat}{e:TypeId}{k g n:Nat}{xs:List Value}(M:w.heap[g]? =some (.cells xs.toArray e (0,0)))(E:B≤g)(G:h g=none)(O:n≤ew)(A:xs.length=n*k):Ow w h B e k (ag (some ⟨g,0,none⟩) n n) n xs:=
 ⟨⟨A,.inr ⟨g,n,xs.toArray,rfl,E,M,an _,O,by simpa using A,iG (by simp[A])⟩⟩,fun q Y=>by obtain rfl:=aU Y;exact G⟩
theorem Fx{w:World}{g:Nat}{xs:List Value}{e:TypeId}(A:w.heap[g]? =some (.cells xs.toArray e (0,0)))(i:Nat):w.cell? ⟨g,i,none⟩=xs[i]? :=by simp[World.cell?,A]
theorem Fy{w w2:World}{h:Hp}{B:Nat}{T:TypeId}{k g n b:Nat}{e z:List Value}(E:e.length=k)(hz:z.length=k)(ac:Ow w2 h B T k (ag (some ⟨g,0,none⟩) n n) n (aA n z).flatten)(O:b<w.heap.size)(st:Below w.heap.size w w2)(Y:∀j v,e[j]? =some v→w.cell? ⟨b,j,none⟩=some v):w2.heap[g]? =some (.cells (fi e z n 0).toArray T (0,0))∧(∀j v,(aA (fK 1 n) e).flatten[j]? =some v→w2.cell? ((⟨b,0,none⟩:Addr).add j)=some v)∧(aA (fK 1 n) e).flatten.length=fK 1 n*k∧0+(aA (fK 1 n) e).flatten.length≤(fi e z n 0).length:=by
 have G:(aA (fK 1 n) e).flatten.length=fK 1 n*k:=by rw[lY,E]
 refine⟨?_,?_,G,?_⟩;·rw[show fi e z n 0=(aA n z).flatten by simp[fi]];exact Ow.exact ac
 ·intro j v A
  have ab:e[j]? =some v:=by
   rcases et n with rfl|M;·simp at A
   ·rw[show fK 1 n=1 from sN M]at A;simpa using A
  rw[sw,st.cell O,cO];exact Y j v ab
 ·rw[G,yh E hz (aW _),cO];exact mq _ (sO _ _)
theorem yl{w w2:World}{h:Hp}{B:Nat}{S T:TypeId}{k g n b:Nat}{e z:List Value}(ao:ai.underlying S=some (.slice T))(am:(ai.info? T).map (·.size)=some k)(G:e.length=k)(hz:z.length=k)(h1:∀v∈e,v.oneCell'=true)(aj:w.heap.size≤g)(M:Ow w2 h B T k (ag (some ⟨g,0,none⟩) n n) n (aA n z).flatten)(ac:b<w.heap.size)(st:Below w.heap.size w w2)(ad:∀j v,e[j]? =some v→w.cell? ⟨b,j,none⟩=some v):∃d w3,d=fK 1 n∧(∀A,(vX #[S,S] A #[ag (some ⟨g,0,none⟩) n n,ag (some ⟨b,0,none⟩) 1 1]).run ai w2= .ok (af ae (d:Int)) w3)∧w3.heap[g]? =some (.cells (fi e z n d).toArray T (0,0))∧Below w.heap.size w w3∧g<w3.heap.size:=by
 obtain⟨E,O,Y,ab⟩:=Fy G hz M ac st ad;have ak:=(M.lt g rfl).2;have nx:=yi (e:=e) (z:=z) (k:=k) (n:=n) (m:=0) (d:=fK 1 n) G hz (by rw[cO];exact sO _ _);rw[Nat.zero_mul,cO (fK 1 n),←fI]at nx;refine⟨_,_,rfl,fun A=>yg w2 S S A T k g 0 n n ⟨b,0,none⟩ 1 1 _ T (aA (fK 1 n) e).flatten ao am E Y O (by simpa using ab) (yj h1 _),?_,?_,?_⟩;·simp only[]at nx⊢;rw[nx];simpa using setRow_heap w2 g _ _ T _ E
 ·exact below_setRow st aj _
 ·simpa[World.setRow]using ak
theorem ym{w wr:World}{S T:TypeId}{k g n m:Nat}{e z:List Value}(ao:ai.underlying S=some (.slice T))(am:(ai.info? T).map (·.size)=some k)(E:e.length=k)(hz:z.length=k)(h1:∀v∈e,v.oneCell'=true)(ad:w.heap.size≤g)(aB:m<n)(ak:wr.heap[g]? =some (.cells (fi e z n m).toArray T (0,0)))(_st:Below w.heap.size w wr)(aj:g<wr.heap.size)(W:World)(O:W.heap=wr.heap)(ab:Below w.heap.size w W):∃d A,d=fK m (n-m)∧(∀M,(vX #[S,S] M #[ag (some ⟨g,m*k,none⟩) (n-m) (n-m),ag (some ⟨g,0,none⟩) m n]).run ai W= .ok (af ae (d:Int)) A)∧A.heap[g]? =some (.cells (fi e z n (m+d)).toArray T (0,0))∧Below w.heap.size w A∧g<A.heap.size:=by
 have G:W.heap[g]? =some (.cells (fi e z n m).toArray T (0,0)):=by rw[O];exact ak
 have ac:fK m (n-m)≤m:=Nat.min_le_left _ _;have ax:fK m (n-m)≤n-m:=sO _ _;have nx:=yi (e:=e) (z:=z) (k:=k) (n:=n) (m:=m) (d:=fK m (n-m)) E hz (by omega);rw[←fI]at nx;have Y:(aA (fK m (n-m)) e).flatten.length=fK m (n-m)*k:=by rw[lY,E]
 refine⟨_,_,rfl,fun M=>yg W S S M T k g (m*k) (n-m) (n-m) ⟨g,0,none⟩ m n _ T (aA (fK m (n-m)) e).flatten ao am G Y (fun j v hj=> ?_) ?_ (yj h1 _),?_,?_,?_⟩;·rw[sw,Fx G,cO];exact Fw ac hj
 ·rw[Y];have:=yh (e:=e) (z:=z) (n:=n) (m:=m) E hz (by omega);simp only[List.size_toArray];rw[this,←gN];exact mq _ (by omega)
 ·simp only[]at nx⊢;rw[nx];simpa using setRow_heap W g _ _ T _ G
 ·exact below_setRow ab ad _
 ·simpa[World.setRow,O]using aj
theorem yn(h:Hp)(w:World)(aL:ao h w)(b:Nat)(e:List Value)(aJ:e.length=1)(h1:∀v∈e,v.oneCell'=true)(am:∀j v,e[j]? =some v→w.cell? ⟨b,j,none⟩=some v)(a8:b<w.heap.size)(n:Nat)(bq:n≤1000000000):Calls ai 142 #[ag (some ⟨b,0,none⟩) 1 1,af ae n] w fun ak w'=>ak= .returned (ag (some ⟨w.heap.size,0,none⟩) n n)∧Below w.heap.size w w'∧Ow w' h w.heap.size 3 1 (ag (some ⟨w.heap.size,0,none⟩) n n) n (aA n e).flatten:=by
 have aZ:=aa aL;have aX:=aa am;have ac:=aa h1;have M:=aa aJ;have c1:(1*n/18446744073709551616:Nat)=0:=by omega
 have c2:(1*n%18446744073709551616:Nat)=n:=by omega
 have c3:IntKind.u64.wrap (n:Int)=n:=by rw[Ks];omega
 have c4:ae.wrap (n:Int)=n:=bA (by omega);have c5:¬((n:Int)<0):=by omega
 have bg:¬((9223372036854775807:Int)<n):=by omega
 clear aL am h1 aJ;go_enter Tryz.func142,Tryz.ntmps142;go_wp2_with fail;refine(Any.bits_Mul Tryz.mulL 1 n (by omega) (by omega) _).mono ?_;rintro ak w1 ⟨rfl,ba⟩;obtain rfl:=ba.symm;rw[c1,c2];go_wp2_with(at_make;refine jk fP rfl _ _ rfl (St.refl aZ.out) ae ae _ _ n rfl rfl (by go_num) (by go_num) (by omega) ?_;intro w2 aP aN a5;have E:=aN;rw[show(1:Nat)=([af ae 0]:List Value).length from rfl,yk]at E;have aS:=aa (E.free _ rfl);obtain⟨d,w3,ax,cp,aO,b3,a3⟩:=yl (S:=34) (k:=1) sD (by kernel_rfl) M.out rfl ac.out (an _) E a8 aP.below aX.out;have aT:=aa aO;have aQ:=aa b3;have aY:=aa ax;clear aP aN a5 E aO b3 ax)
 have aB:d≤n∧(0<n→0<d):=by
  have:=aY.out;rcases et n with O|O;·subst O;simp at this;omega
  ·rw[show fK 1 n=1 from sN O]at this;omega
 go_loopw[8,34,35,36,37,38,39,40,41,42,43,44,45,46] (fun t _ _ _ _ _ _ _ _ _ _ _ _ _ wr=>∃(m:Nat),m≤n∧(0<n→0<m)∧t=af ae m∧wr.heap[w.heap.size]? =some (.cells (fi e [af ae 0] n m).toArray 3 (0,0))∧Below w.heap.size w wr∧w.heap.size<wr.heap.size) (fun t _ _ _ _ _ _ _ _ _ _ _ _ _ _=>n-(intOf t).toNat);case atStart=>exact⟨d,aB.1,aB.2,rfl,aT.out,aQ.out,a3⟩
 case round=>
  obtain⟨m,bp,aM,rfl,R,ab,a4⟩:=hrel;have ad:=aa R;have G:=aa ab;clear R ab cp;by_cases a9:m<n
  ·obtain⟨A,bd,aG,cp,aj,Y,a2⟩:=ym (S:=34) (k:=1) sD (by kernel_rfl) M.out (z:=[af ae 0]) rfl ac.out (an _) a9 ad.out G.out a4 wr.drew rfl G.out.drew;have bm:A≤n-m∧0<A:=by subst aG;exact⟨sO _ _,Nat.lt_min.2 ⟨aM (by omega),by omega⟩⟩
   have a1:=aa aj;have aV:=aa Y;have bz:(m:Int)<(n:Int):=by omega
   have bB:(m:Int)≤(n:Int):=by omega
   have bC:(0:Int)≤(m:Int):=by omega
   have bE:ae.wrap ((m:Int)+A)=(m:Int)+A:=bA (by omega);have bv:¬n=m:=by omega
   try simp only[Nat.mul_one]at cp
   clear aj Y aG aM;go_wp2_with fail;go_region
   all_goals
    go_wp2_with fail;go_roundw;case rel=>exact⟨m+A,by omega,fun _=>by omega,by go_num,a1.out,aV.out,a2⟩
    case measure=>simp[intOf];omega
  ·obtain rfl:n=m:=by omega
   go_wp2_with fail;go_ret;refine⟨rfl,G.out,?_⟩;have:=ad.out;rw[show fi e [af ae 0] n n=(aA n e).flatten by simp[fi]]at this;exact Ow.uA this (an _) aS.out (by simp only[ew];omega) (by rw[lY,M.out])
theorem Fz(h:Hp)(w:World)(aL:ao h w)(b:Nat)(e:List Value)(aJ:e.length=2)(h1:∀v∈e,v.oneCell'=true)(am:∀j v,e[j]? =some v→w.cell? ⟨b,j,none⟩=some v)(a8:b<w.heap.size)(n:Nat)(bq:n≤1000000000):Calls ai 24 #[ag (some ⟨b,0,none⟩) 1 1,af ae n] w fun ak w'=>ak= .returned (ag (some ⟨w.heap.size,0,none⟩) n n)∧Below w.heap.size w w'∧Ow w' h w.heap.size 43 2 (ag (some ⟨w.heap.size,0,none⟩) n n) n (aA n e).flatten:=by
 have aZ:=aa aL;have aX:=aa am;have ac:=aa h1;have M:=aa aJ;have c1:(1*n/18446744073709551616:Nat)=0:=by omega
 have c2:(1*n%18446744073709551616:Nat)=n:=by omega
 have c3:IntKind.u64.wrap (n:Int)=n:=by rw[Ks];omega
 have c4:ae.wrap (n:Int)=n:=bA (by omega);have c5:¬((n:Int)<0):=by omega
 have bg:¬((9223372036854775807:Int)<n):=by omega
 clear aL am h1 aJ;go_enter Tryz.func24,Tryz.ntmps24;go_wp2_with fail;refine(Any.bits_Mul Tryz.mulL 1 n (by omega) (by omega) _).mono ?_;rintro ak w1 ⟨rfl,ba⟩;obtain rfl:=ba.symm;rw[c1,c2];go_wp2_with(at_make;refine jk EW rfl _ _ rfl (St.refl aZ.out) ae ae _ _ n rfl rfl (by go_num) (by go_num) (by omega) ?_;intro w2 aP aN a5;have E:=aN;rw[show(2:Nat)=([af ae 0,af ae 0]:List Value).length from rfl,yk]at E;have aS:=aa (E.free _ rfl);obtain⟨d,w3,ax,cp,aO,b3,a3⟩:=yl (S:=40) (k:=2) B2 (by kernel_rfl) M.out rfl ac.out (an _) E a8 aP.below aX.out;have aT:=aa aO;have aQ:=aa b3;have aY:=aa ax;clear aP aN a5 E aO b3 ax)
 have aB:d≤n∧(0<n→0<d):=by
  have:=aY.out;rcases et n with O|O;·subst O;simp at this;omega
  ·rw[show fK 1 n=1 from sN O]at this;omega
 go_loopw[8,34,35,36,37,38,39,40,41,42,43,44,45,46] (fun t _ _ _ _ _ _ _ _ _ _ _ _ _ wr=>∃(m:Nat),m≤n∧(0<n→0<m)∧t=af ae m∧wr.heap[w.heap.size]? =some (.cells (fi e [af ae 0,af ae 0] n m).toArray 43 (0,0))∧Below w.heap.size w wr∧w.heap.size<wr.heap.size) (fun t _ _ _ _ _ _ _ _ _ _ _ _ _ _=>n-(intOf t).toNat);case atStart=>exact⟨d,aB.1,aB.2,rfl,aT.out,aQ.out,a3⟩
 case round=>
  obtain⟨m,bp,aM,rfl,R,ab,a4⟩:=hrel;have ad:=aa R;have G:=aa ab;clear R ab cp;by_cases a9:m<n
  ·obtain⟨A,bd,aG,cp,aj,Y,a2⟩:=ym (S:=40) (k:=2) B2 (by kernel_rfl) M.out (z:=[af ae 0,af ae 0]) rfl ac.out (an _) a9 ad.out G.out a4 wr.drew rfl G.out.drew;have bm:A≤n-m∧0<A:=by subst aG;exact⟨sO _ _,Nat.lt_min.2 ⟨aM (by omega),by omega⟩⟩
   have a1:=aa aj;have aV:=aa Y;have bz:(m:Int)<(n:Int):=by omega
   have bB:(m:Int)≤(n:Int):=by omega
   have bC:(0:Int)≤(m:Int):=by omega
   have bE:ae.wrap ((m:Int)+A)=(m:Int)+A:=bA (by omega);have bv:¬n=m:=by omega
   try simp only[Nat.mul_one]at cp
   clear aj Y aG aM;go_wp2_with fail;go_region
   all_goals
    go_wp2_with fail;go_roundw;case rel=>exact⟨m+A,by omega,fun _=>by omega,by go_num,a1.out,aV.out,a2⟩
    case measure=>simp[intOf];omega
  ·obtain rfl:n=m:=by omega
   go_wp2_with fail;go_ret;refine⟨rfl,G.out,?_⟩;have:=ad.out;rw[show fi e [af ae 0,af ae 0] n n=(aA n e).flatten by simp[fi]]at this;exact Ow.uA this (an _) aS.out (by simp only[ew];omega) (by rw[lY,M.out])
end Go.Proofs.YtdplggpbgommnaaGreatDoor
