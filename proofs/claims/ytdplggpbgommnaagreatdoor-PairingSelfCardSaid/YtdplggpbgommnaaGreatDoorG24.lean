/- Pair's state: lengths and ranges; several rows written at once. -/
import Derived.Test.YtdplggpbgommnaaGreatDoorG17
open Go renaming results_none→j0
open Go.Lib renaming hid→aa
open Go.Proofs.Tryz renaming prog→ai
open Go.RowKit.Below renaming refl→aD
open Go.Value renaming pointer→az,slice→ag,tuple→bD
open Int renaming toNat_natCast→dy
open List renaming getD_eq_getElem?_getD→bb,getElem?_cons_zero→bc,getElem?_eq_getElem→aE,getElem?_toArray→bw,getElem_mem→aK,mem_map→b6,mem_or_eq_of_mem_set→qu,range→aw
open Nat renaming le_trans→b5
set_option maxRecDepth 100000
set_option maxHeartbeats 8000000
namespace Go.Proofs.YtdplggpbgommnaaGreatDoor
open Go.RowKit
def iW(aI new:List Int)(n m:Nat):Prop:=aI.length=n∧new.length=m∧(∀x∈aI,x<m)∧∀x∈new,x<n
theorem iW.set{G E:List Int}{n m:Nat}(h:iW G E n m){i j M O:Nat}(Y:i<n)(hj:j<m):iW (G.set M (j:Int)) (E.set O (i:Int)) n m:=by
 refine⟨by simp[h.1],by simp[h.2.1],fun x A=> ?_,fun x A=> ?_⟩
 ·rcases qu A with q|rfl;·exact h.2.2.1 x q
  ·omega
 ·rcases qu A with q|rfl;·exact h.2.2.2 x q
  ·omega
theorem FY{K α:Type}[DecidableEq K]{l:List (K×List α)}{P:α→Prop}(h:∀q∈l,∀x∈q.2,P x)(k:K):∀x∈(aT l k).getD [],P x:=by
 intro x A;cases hg:aT l k with
 |none=>rw[hg]at A;cases A
 |some v=>obtain⟨q,E,rfl⟩:=yH hg;rw[hg]at A;exact h q E x A
theorem o2{A G:List Int}{n m:Nat}(h:iW A G n m)(Y O:Nat→Option dX):iW (dh A G Y O).1 (dh A G Y O).2 n m:=by
 unfold dh;have ak:=hX (P:=fun(s:List (dX×List Nat)×List Int×List Int)=>(∀q∈s.1,∀x∈q.2,x<n)∧iW s.2.1 s.2.2 n m) (f:=gx O) (aw G.length) (iK A Y A.length,A,G) ⟨by rw[h.1];exact wM A Y n,h⟩ ?_;·exact ak.2
 ·rintro⟨g,o,w⟩ j hj ⟨E,M⟩;have ac:j<m:=by have:=List.mem_range.1 hj;rw[h.2.1]at this;exact this
  unfold gx;cases O j with
  |none=>exact⟨E,M⟩
  |some k=>
   simp only;split;·exact⟨E,M⟩
   ·have ab:=FY E k;generalize(aT g k).getD []=x at ab;cases x with
    |nil=>exact⟨E,M⟩
    |cons i r=>
     refine⟨fun q ad=> ?_,M.set (ab i List.mem_cons_self) ac⟩;rcases oM ad with q1|rfl;·exact E q q1
     ·exact fun x aj=>ab x (List.mem_cons_of_mem _ aj)
theorem rF{E A:List Int}{n m:Nat}(h:iW E A n m)(cost:Nat→Nat→Int)(drop add:Nat→Int):iW (eX E A cost drop add).1 (eX E A cost drop add).2 n m:=by
 unfold eX;simp only;split;·exact h
 ·unfold nC;refine hX (P:=fun(s:List Int×List Int)=>iW s.1 s.2 n m) _ _ h fun s i O M=> ?_;unfold oJ;split
  ·rename_i G;have h1:(dp E).getD i 0<n:=by rw[bb,aE G.1,←h.1];exact qJ (aK _)
   have h2:(dp A).getD (ge (mA (gp (dp E) (dp A) cost drop add)) i).toNat 0<m:=by rw[bb,aE (by have:=G.2.1;have:=G.2.2.1;omega),←h.2.1];exact qJ (aK _)
   exact M.set h1 h2
  ·exact M
structure cw(s:bp)(ot nt:List Tree):Prop where
 iA:iW s.om s.nm ot.length nt.length
 dS:iW s.oa s.na (aj 0 ot).length (aj 0 nt).length
 ol:s.ot.length=ot.length
 nl:s.nt.length=nt.length
 rl:s.rs.length=nt.length
 mR:∀i,i<ot.length→(s.ot.getD i []).length=(ot.getD i default).size
 gY:∀i,i<nt.length→(s.nt.getD i []).length=(nt.getD i default).size
 gZ:∀i,i<nt.length→(s.rs.getD i []).length=(nt.getD i default).size
theorem cw.node{s:bp}{ot nt:List Tree}(h:cw s ot nt)(m n t k:Nat):cw (du s m n t k) ot nt:=
 ⟨h.iA,h.dS,by simp[du,eM,h.ol],by simp[du,eM,h.nl],by simp[du,eM,h.rl],fun i A=>by simp only[du,lW];exact h.mR i A,fun i A=>by simp only[du,lW];exact h.gY i A,fun i A=>by simp only[du,lW];exact h.gZ i A⟩
section
variable {h:Hp} {w w1:World} {B xb so sn:Nat} {budget:Int} {V:eL→Value} {s s':bp}
theorem bH.yK(q:bH h w B xb so sn budget V s)(C:eL→Prop)(t:Tu (fun b=>∃k,C k∧(V k).ownBlock=some b) w w1)(o:∀k,C k→Ow w1 h B (dD k) (dE k) (V k) (cf s' k) (ch s' k))(G:∀k,¬C k→cf s' k=cf s k∧ch s' k=ch s k)(h1:s'.ot.length=s.ot.length)(h2:s'.nt.length=s.nt.length)(M:s'.rs.length=s.rs.length)(O:s'.cost=s.cost)(Y:s'.a7=s.a7):bH h w1 B xb so sn budget V s':=by
 obtain⟨ak,x,aj⟩:=q.box;refine⟨t.I q.I fun b ⟨k,_,A⟩=>(q.rows.own k).free b A,⟨fun k=> ?_,q.rows.apart⟩,?_,?_,⟨ak,?_,?_⟩,q.xn,q.xr⟩
 ·by_cases E:C k;·exact o k E
  ·rw[(G k E).1,(G k E).2];refine(q.rows.own k).mO t fun b A ⟨ad,ac,ab⟩=> ?_;exact q.rows.apart k ad (fun e=>E (e▸ac)) b A ab
 ·rw[h1];exact q.aI
 ·rw[h2];exact q.new
 ·rw[O,Y];exact x.tu t fun⟨k,_,A⟩=>q.xr k A
 ·rw[M];exact aj
def e4(V:eL→Value)(b:Nat):Prop:=∃k,(V k).ownBlock=some b
theorem bH.rG(q:bH h w B xb so sn budget V s):∀b,e4 V b→h b=none∧b≠xb:=fun b ⟨k,A⟩=>⟨(q.rows.own k).free b A,fun e=>q.xr k (by rw[A,e])⟩
end
def iC(ot nt:List Tree)(s:bp):bp:=
 let e:=dh s.om s.nm (eC ot) (eC nt);let a:=eX e.1 e.2 (fun i j=>iT (bX (ot.getD i default).kids) (bX (nt.getD j default).kids)) (countP ot) (countP nt)
 {s with om:=a.1,nm:=a.2}
def l5(ot nt:List Tree)(s:bp):bp:=
 let t:=iC ot nt s
 (aw t.nm.length).foldl ea t
theorem zX{ot nt:List Tree}{s:bp}(h:cw s ot nt):cw (iC ot nt s) ot nt:=
 ⟨rF (o2 h.iA _ _) _ _ _,h.dS,h.ol,h.nl,h.rl,h.mR,h.gY,h.gZ⟩
theorem zY{ot nt:List Tree}{s:bp}(h:cw s ot nt)(j:Nat):cw (ea s j) ot nt:=by
 unfold ea;split;·exact h.node _ _ _ _
 ·exact h
theorem JF(s:bp)(j:Nat):ea s j=if 0≤ge s.nm j then du s j 0 (ge s.nm j).toNat 0 else s:=rfl
theorem JG(s:bp)(j:Nat):(ea s j).nm=s.nm:=by unfold ea;split<;>rfl
theorem JH{K α:Type}[DecidableEq K]{l:List (K×α)}(G:(l.map (·.1)).Nodup)(p:K)(v:α):((aY l p v).map (·.1)).Nodup:=by
 unfold aY;cases hp:bm l p with
 |none=>rw[List.map_append,List.nodup_append];refine⟨G,by simp,fun a M b A=> ?_⟩;simp at A;subst A;rintro rfl;unfold bm at hp;rw[List.findIdx?_eq_none_iff]at hp;obtain⟨q,O,rfl⟩:=b6.1 M;exact absurd (hp q O) (by simp)
 |some k=>
  have E:=fv hp
  have:(l.set k (p,v)).map (·.1)=l.map (·.1):=by
   rw[List.map_set];have:=p0 hp E;have h2:(l.map (·.1))[k]'(by rw[List.length_map];exact E)=p:=by rw[List.getElem_map];exact this
   show(l.map (·.1)).set k p=_;rw[←h2,List.set_getElem_self]
  rw[this];exact G
theorem JI(A:List Tree):((bX A).map (·.1)).Nodup:=by unfold bX;exact hX (P:=fun(l:List (lU×Value))=>(l.map (·.1)).Nodup) A [] List.nodup_nil fun l d _ h=>JH h _ _
theorem JJ{K α:Type}[DecidableEq K]{l:List (K×α)}{p:K}(h:(aT l p).isSome=true):p∈l.map (·.1):=by
 unfold aT at h;cases hp:bm l p with
 |none=>rw[hp]at h;cases h
 |some k=>have A:=fv hp;exact b6.2 ⟨l[k],aK A,p0 hp A⟩
theorem JK(a b:List (lU×Value))(A:(a.map (·.1)).Nodup):hW a b≤b.length:=by
 unfold hW;have h1:((a.filter fun q=>(aT b q.1).isSome).map (·.1)).Nodup:=A.sublist (List.filter_sublist.map _);have h2:(a.filter fun q=>(aT b q.1).isSome).map (·.1)⊆b.map (·.1):=fun p E=>by obtain⟨q,G,rfl⟩:=b6.1 E;exact JJ (List.mem_filter.1 G).2
 simpa using h1.length_le_of_subset h2
structure e7(ts:List Tree):Prop where
 len:ts.length≤1000000
 names:∀t∈ts,(bX t.kids).length≤500000
 dS:(aj 0 ts).length≤1000000
 size:∀d∈aj 0 ts,d.t.size≤262144
 mod:∀d∈aj 0 ts,d.J<ts.length
 num:∀d∈aj 0 ts,d.number+d.t.size≤(ts.getD d.J default).size
 lr:∀t∈ts,t.size≤1000000
section
variable {h:Hp} {w:World} {B xb so sn:Nat} {budget:Int} {V:eL→Value} {s:bp} {ot nt:List Tree} {mr nr:List Nat} {kv dR:Value}
theorem JL{B g1 O:Nat}{E A:Value}{M G:List Int}(Y:ao h w)(aB:B≤w.heap.size){mv av eo eN:Value}(K:cC h so ot mr mv av kv)(ax:cC h sn nt nr eo eN dR)(ak:Has w g1 #[az (some ⟨so,0,none⟩)])(am:Has w O #[az (some ⟨sn,0,none⟩)])(aj:Ow w h B 3 1 E M.length (aV M))(ad:Ow w h B 3 1 A G.length (aV G))(ap:cj E A)(ac:∀k,(E.ownBlock=some k∨A.ownBlock=some k)→k≠g1∧k≠O)(aL:M.length=ot.length)(aJ:G.length=nt.length)(b1:ot.length≤1000000)(b2:nt.length≤1000000):Calls ai 51 #[E,A,.func (.func 50) #[] #[az (some ⟨g1,0,none⟩)],.func (.func 50) #[] #[az (some ⟨O,0,none⟩)]] w fun e w'=>e= .returned (bD #[])∧Ow w' h B 3 1 E M.length (aV (dh M G (eC ot) (eC nt)).1)∧Ow w' h B 3 1 A G.length (aV (dh M G (eC ot) (eC nt)).2)∧Tu (fun k=>E.ownBlock=some k∨A.ownBlock=some k) w w':=by
 have ab:∀k,(E.ownBlock=some k∨A.ownBlock=some k)→h k=none:=fun k e=>by
  rcases e with e|e;·exact aj.free k e
  ·exact ad.free k e
 refine s8 h w Y aB E A M G aj ad ap (by omega) (by omega) 50 50 _ _ (fun _ _=>by kernel_rfl) (fun _ _=>by kernel_rfl) (fun W=>Tu (fun k=>E.ownBlock=some k∨A.ownBlock=some k) w W) (Tu.refl _ _) (fun _ _ a b=>a.trans b) (eC ot) (eC nt) (fun i aG W t=> ?_) (fun i aG W t=> ?_);·exact yr (t.I Y ab) K (ak.tu t fun e=>(ac _ e).1 rfl) i (by omega)
 ·exact yr (t.I Y ab) ax (am.tu t fun e=>(ac _ e).2 rfl) i (by omega)
theorem JM{a b:List (lU×Value)}(h1:a.length≤500000)(h2:b.length≤500000)(A:hW a b≤b.length):0≤iT a b∧iT a b≤1048576:=by have:hW a b≤a.length:=List.length_filter_le _ _;unfold iT;split<;>omega
theorem JN{B g1 ak:Nat}{O M:Value}{G E:List Int}(x:iU h w xb so sn budget)(ax:B≤w.heap.size){mv av eo eN:Value}(K:cC h so ot mr mv av kv)(ac:cC h sn nt nr eo eN dR)(ad:iz w mr ot)(aj:iz w nr nt)(am:Has w g1 #[az (some ⟨so,0,none⟩)])(ao:Has w ak #[az (some ⟨sn,0,none⟩)])(aG:Ow w h B 3 1 O G.length (aV G))(aB:Ow w h B 3 1 M E.length (aV E))(ap:cj O M)(aM:G.length=ot.length)(aL:E.length=nt.length)(b1:e7 ot)(b2:e7 nt):
  Calls ai 54 #[O,M,.func (.func 55) #[az (some ⟨xb,0,none⟩)] #[],.func (.func 53) #[] #[az (some ⟨g1,0,none⟩)],.func (.func 53) #[] #[az (some ⟨ak,0,none⟩)]] w fun e w'=>e= .returned (bD #[])∧Ow w' h B 3 1 O G.length (aV (eX G E (fun i j=>iT (bX (ot.getD i default).kids) (bX (nt.getD j default).kids)) (countP ot) (countP nt)).1)∧Ow w' h B 3 1 M E.length (aV (eX G E (fun i j=>iT (bX (ot.getD i default).kids) (bX (nt.getD j default).kids)) (countP ot) (countP nt)).2)∧Tu (fun k=>O.ownBlock=some k∨M.ownBlock=some k) w w':=by
 have A:∀{ts:List Tree} (b:e7 ts) (i:Nat),i<ts.length→(bX (ts.getD i default).kids).length≤500000:=fun{ts} b i Y=>by rw[bb,aE Y];exact b.names _ (aK Y)
 have aJ:=b1.len;have l2:=b2.len;have ab:∀{W},Below w.heap.size w W→∀{mr:List Nat} {ts:List Tree},iz w mr ts→iz W mr ts:=fun b _ _ m=>m.tu ((Tu.refl (fun _=>False) w).below b) fun _ _ e=>e;refine wm h w x.I ax O M G E aG aB ap (by omega) (by omega) 55 53 53 _ _ _ (fun _ _=>by kernel_rfl) (fun _ _=>by kernel_rfl) (fun _ _=>by kernel_rfl) (fun W=>Below w.heap.size w W) (aD _ _) (fun _ _ a b=>a.trans b) _ _ _ (fun i j Y hj=>⟨JM (A b1 i (by omega)) (A b2 j (by omega)) ?_,fun W b=> ?_⟩) (fun i Y=>⟨?_,fun W b=> ?_⟩) (fun i Y=>⟨?_,fun W b=> ?_⟩);·exact JK _ _ (JI _)
 ·exact FX (x.below b) K ac (ab b ad) (ab b aj) i j (by omega) (by omega) (b5 (A b1 i (by omega)) (by omega)) (b5 (A b2 j (by omega)) (by omega))
 ·have:=A b1 i (by omega);unfold countP;omega
 ·exact yy (x.I.below b) K (ab b ad) (am.below b) i (by omega) (b5 (A b1 i (by omega)) (by omega))
 ·have:=A b2 i (by omega);unfold countP;omega
 ·exact yy (x.I.below b) ac (ab b aj) (ao.below b) i (by omega) (b5 (A b2 i (by omega)) (by omega))
theorem bH.iA(q:bH h w B xb so sn budget V s){w1:World}(om nm:List Int)(A:om.length=s.om.length)(l2:nm.length=s.nm.length)(E:Ow w1 h B 3 1 (V .om) s.om.length (aV om))(G:Ow w1 h B 3 1 (V .nm) s.nm.length (aV nm))(t:Tu (fun k=>(V .om).ownBlock=some k∨(V .nm).ownBlock=some k) w w1):bH h w1 B xb so sn budget V {s with om:=om,nm:=nm}∧Tu (e4 V) w w1:=by
 refine⟨q.yK (fun k=>k= .om∨k= .nm) (t.mono fun b e=> ?_) (fun k e=> ?_) (fun k e=> ?_) rfl rfl rfl rfl rfl,t.mono fun b e=> ?_⟩
 ·rcases e with e|e;·exact⟨.om,.inl rfl,e⟩
  ·exact⟨.nm,.inr rfl,e⟩
 ·rcases e with rfl|rfl;·simp only[dD,dE,cf,ch,A];exact E
  ·simp only[dD,dE,cf,ch,l2];exact G
 ·cases k with
  |om=>exact absurd (.inl rfl) e
  |nm=>exact absurd (.inr rfl) e
  |_=>exact⟨rfl,rfl⟩
 ·rcases e with e|e;·exact⟨.om,e⟩
  ·exact⟨.nm,e⟩
theorem HA(q:bH h w B xb so sn budget V s)(K:cC h so ot mr (V .om) (V .oa) kv)(bJ:cC h sn nt nr (V .nm) (V .na) dR)(cl:iz w mr ot)(cm:iz w nr nt)(db:∀i,i<ot.length→¬e4 V (mr.getD i 0))(de:∀i,i<nt.length→¬e4 V (nr.getD i 0))(sh:cw s ot nt)(b1:e7 ot)(b2:e7 nt)(ct:B≤w.heap.size):Calls ai 25 #[az (some ⟨xb,0,none⟩)] w fun e w'=>e= .returned (bD #[])∧bH h w' B xb so sn budget V (l5 ot nt s)∧Tu (e4 V) w w':=by
 have X:=aa q.ci;have ba:=X.out.c0;have bd:=X.out.c1;have aS:=X.out.lt;obtain⟨tv,dj,c8,aJ,-,-,-⟩:=K.box;obtain⟨dm,dk,c9,aL,-,-,-⟩:=bJ.box;have aM:w.cell? ⟨so,3,none⟩=some (V .om):=cu X.out.I aJ 3;have aN:w.cell? ⟨sn,3,none⟩=some (V .nm):=cu X.out.I aL 3;have ci:=cD (X.out.I _ _ aJ);have bg:=cD (X.out.I _ _ aL);have O:=aa (q.rows.own .om);have Y:=aa (q.rows.own .nm);have aT:=aa (q.rows.apart .om .nm (by simp));obtain⟨bT,c1,a2⟩:=O.out.shape;obtain⟨bV,c2,a3⟩:=Y.out.shape;simp only[cf]at a2 a3;have ax:=aa a2;have ac:=aa a3;simp only[cf,ch,dD,dE]at O Y;rw[a2]at aM O aT;rw[a3]at aN Y aT
 have cn:Hid (∀k,((ag bT s.om.length c1).ownBlock=some k∨(ag bV s.nm.length c2).ownBlock=some k)→k<w.heap.size∧e4 V k):=fun k e=>by
  rcases e with e|e;·exact⟨(O.out.lt k e).2,.om,by rw[a2];exact e⟩
  ·exact⟨(Y.out.lt k e).2,.nm,by rw[a3];exact e⟩
 have aX:=aa K;have aY:=aa bJ;have Q:=aa q;have bz:=aa cl;have bA:=aa cm;have bB:=aa sh;have cX:=aa sh.iA.1;have bO:=aa sh.iA.2.1;have dg:=b1.len;have di:=b2.len;have cN:=aa b1;have cQ:=aa b2;have dn:=aa q.rG;clear q K bJ aJ aL cl cm a2 a3 sh b1 b2;have MM:Hid (iC ot nt s={s with om:=(eX (dh s.om s.nm (eC ot) (eC nt)).1 (dh s.om s.nm (eC ot) (eC nt)).2 (fun i j=>iT (bX (ot.getD i default).kids) (bX (nt.getD j default).kids)) (countP ot) (countP nt)).1,nm:=(eX (dh s.om s.nm (eC ot) (eC nt)).1 (dh s.om s.nm (eC ot) (eC nt)).2 (fun i j=>iT (bX (ot.getD i default).kids) (bX (nt.getD j default).kids)) (countP ot) (countP nt)).2}):=rfl;have aO:=aa (o2 bB.out.iA (eC ot) (eC nt));generalize cv:dh s.om s.nm (eC ot) (eC nt)=ao at*;have cj:=aa cv;clear cv;go_enter Tryz.func25,Tryz.ntmps25;go_wp2_with fail
 go_region_held3(fun w'=>w'.cell? ⟨xb,0,none⟩=some (az (some ⟨so,0,none⟩))∧w'.cell? ⟨xb,1,none⟩=some (az (some ⟨sn,0,none⟩))∧w'.cell? ⟨so,3,none⟩=some (ag bT s.om.length c1)∧w'.cell? ⟨sn,3,none⟩=some (ag bV s.nm.length c2)) (first|(go_keep;done)|exact⟨a8,k1,k2,k3⟩|exact⟨ba,bd,aM,aN⟩|exact⟨(A.out.cell aS).trans ba,(A.out.cell aS).trans bd,(A.out.cell ci).trans aM,(A.out.cell bg).trans aN⟩) (first
  |(go_at_call 49;(with_reducible refine(ys so).mono ?_);rintro e ce ⟨g1,rfl,h1,ak,a9⟩;have ad:=aa h1;(try(have aj:=aa (aj.out.below ak)));have cV:w.heap.size≤g1:=(by first|exact b5 A.out.size a9|exact a9);have A:Hid (Below w.heap.size w ce):=(by first|exact A.out.trans (ak.mono A.out.size)|exact((aD _ _).drew).trans ak);clear h1 ak a9)
  |(go_at_call 49;(with_reducible refine(ys sn).mono ?_);rintro e cg ⟨cq,rfl,h2,am,l2⟩;have aj:=aa h2;(try(have ad:=aa (ad.out.below am)));have L2:w.heap.size≤cq:=(by first|exact b5 A.out.size l2|exact l2);have A:Hid (Below w.heap.size w cg):=(by first|exact A.out.trans (am.mono A.out.size)|exact((aD _ _).drew).trans am);clear h2 am l2)
  |(go_at_call 51;refine(JL (X.out.I.below A.out) (b5 ct A.out.size) aX.out aY.out ad.out aj.out (O.out.same A.out) (Y.out.same A.out) aT.out (fun k e=>by have:=(cn.out k e).1;constructor<;>omega) cX.out bO.out dg di).mono ?_;rintro e ab ⟨rfl,aB,aG,M⟩;rw[cj.out]at aB aG;rw[←ax.out,←ac.out]at M;rw[←ax.out]at aB;rw[←ac.out]at aG;obtain⟨G,M⟩:=(Q.out.below A.out).iA ao.1 ao.2 (aO.out.1.trans bB.out.iA.1.symm) (aO.out.2.1.trans bB.out.iA.2.1.symm) aB aG M;have aZ:=aa G;have bE:=aa (((Tu.refl (e4 V) w).below A.out).trans M);have a8:=G.ci.c0;have k1:=G.ci.c1;obtain⟨cc,b0,bY,a4,-,-,-⟩:=aX.out.box;obtain⟨cd,b9,bZ,a5,-,-,-⟩:=aY.out.box;have k2:=cu G.I a4 3;have k3:=cu G.I a5 3;rw[show(#[cc,b0,bY,V .om,V .oa,kv]:Array Value)[3]? =some (V .om)from rfl,ax.out]at k2;rw[show(#[cd,b9,bZ,V .nm,V .na,dR]:Array Value)[3]? =some (V .nm)from rfl,ac.out]at k3;clear G M aB aG a4 a5))
 clear ad aj cV L2 A a8 k1 k2 k3;have bG:=aa (rF aO.out (fun i j=>iT (bX (ot.getD i default).kids) (bX (nt.getD j default).kids)) (countP ot) (countP nt));have X:=aa aZ.out.ci;have ba:=X.out.c0;have bd:=X.out.c1;have aS:=X.out.lt;obtain⟨tv,dj,c8,aJ,-,-,-⟩:=aX.out.box;obtain⟨dm,dk,c9,aL,-,-,-⟩:=aY.out.box;have aM:ab.cell? ⟨so,3,none⟩=some (V .om):=cu X.out.I aJ 3;have aN:ab.cell? ⟨sn,3,none⟩=some (V .nm):=cu X.out.I aL 3;rw[ax.out]at aM;rw[ac.out]at aN;have ci:=cD (X.out.I _ _ aJ);have bg:=cD (X.out.I _ _ aL);have O:=aa (aZ.out.rows.own .om);have Y:=aa (aZ.out.rows.own .nm);simp only[cf,ch,dD,dE]at O Y;rw[ax.out]at O;rw[ac.out]at Y;have bz:=aa (bz.out.tu bE.out db);have bA:=aa (bA.out.tu bE.out de);have cM:Hid (B≤ab.heap.size):=b5 ct bE.out.size;have bL:=aa aO.out.1;have bN:=aa aO.out.2.1;clear aJ aL;go_wp2_with fail
 go_region_held3(fun w'=>w'.cell? ⟨xb,0,none⟩=some (az (some ⟨so,0,none⟩))∧w'.cell? ⟨xb,1,none⟩=some (az (some ⟨sn,0,none⟩))∧w'.cell? ⟨so,3,none⟩=some (ag bT s.om.length c1)∧w'.cell? ⟨sn,3,none⟩=some (ag bV s.nm.length c2)) (first|(go_keep;done)|exact⟨a8,k1,k2,k3⟩|exact⟨(A.out.cell aS).trans ba,(A.out.cell aS).trans bd,(A.out.cell ci).trans aM,(A.out.cell bg).trans aN⟩) (first
  |(go_at_call 52;(with_reducible refine(yt so).mono ?_);rintro e ce ⟨g1,rfl,h1,ak,a9⟩;have ad:=aa h1;(try(have aj:=aa (aj.out.below ak)));have A:Hid (Below ab.heap.size ab ce):=(by first|exact A.out.trans (ak.mono A.out.size)|exact((aD _ _).drew).trans ak);clear h1 ak a9)
  |(go_at_call 52;(with_reducible refine(yt sn).mono ?_);rintro e cg ⟨cq,rfl,h2,am,l2⟩;have aj:=aa h2;(try(have ad:=aa (ad.out.below am)));have A:Hid (Below ab.heap.size ab cg):=(by first|exact A.out.trans (am.mono A.out.size)|exact((aD _ _).drew).trans am);clear h2 am l2)
  |(go_at_call 54;refine(JN (X.out.below A.out) (b5 cM.out A.out.size) aX.out aY.out (bz.out.tu ((Tu.refl (fun _=>False) ab).below A.out) (fun _ _ e=>e)) (bA.out.tu ((Tu.refl (fun _=>False) ab).below A.out) (fun _ _ e=>e)) ad.out aj.out (O.out.same A.out) (Y.out.same A.out) aT.out bL.out bN.out cN.out cQ.out).mono ?_;rintro e iP ⟨rfl,aB,aG,M⟩;rw[←ax.out,←ac.out]at M;rw[←ax.out]at aB;rw[←ac.out]at aG;obtain⟨G,M⟩:=(aZ.out.below A.out).iA _ _ (bG.out.1.trans bL.out.symm) (bG.out.2.1.trans bN.out.symm) aB aG M;have co:=b5 A.out.size M.size;have bR:=aa G;have cZ:=aa (bE.out.trans (((Tu.refl (e4 V) ab).below A.out).trans M));have a8:=G.ci.c0;have k1:=G.ci.c1;obtain⟨cc,b0,bY,a4,-,-,-⟩:=aX.out.box;obtain⟨cd,b9,bZ,a5,-,-,-⟩:=aY.out.box;have k2:=cu G.I a4 3;have k3:=cu G.I a5 3;rw[show(#[cc,b0,bY,V .om,V .oa,kv]:Array Value)[3]? =some (V .om)from rfl,ax.out]at k2;rw[show(#[cd,b9,bZ,V .nm,V .na,dR]:Array Value)[3]? =some (V .nm)from rfl,ac.out]at k3;clear G M aB aG a4 a5))
 all_goals
  clear ad aj A;have aS:=bR.out.ci.lt;have bg:=Nat.lt_of_lt_of_le bg co;have bS:Hid (cw (iC ot nt s) ot nt):=zX bB.out;have Q:=bR;rw[show({({s with om:=ao.1,nm:=ao.2}:bp)with om:=(eX ao.1 ao.2 (fun i j=>iT (bX (ot.getD i default).kids) (bX (nt.getD j default).kids)) (countP ot) (countP nt)).1,nm:=(eX ao.1 ao.2 (fun i j=>iT (bX (ot.getD i default).kids) (bX (nt.getD j default).kids)) (countP ot) (countP nt)).2}:bp)=iC ot nt s from MM.out.symm]at Q;have cE:l5 ot nt s=(aw (iC ot nt s).nm.length).foldl ea (iC ot nt s):=rfl;have cU:=aa cE;clear cE bR co MM bG aO bL bN cj aZ O Y bz bA X ba bd aM aN a8 k2 aT cn;have bv:Hid ((iC ot nt s).nm.length=s.nm.length):=bS.out.iA.2.1.trans bO.out.symm;generalize iC ot nt s=E at*;go_wp2_with fail;go_loopw[4,5,70,71,72,73,74,75,76,77,78,79,80,81,82] (fun _ _ i _ _ _ _ _ _ _ _ _ _ _ _ wr=>∃(j:Nat),j≤s.nm.length∧i= .int .i64 j∧bH h wr B xb so sn budget V ((aw j).foldl ea E)∧Tu (e4 V) w wr) (fun _ _ i _ _ _ _ _ _ _ _ _ _ _ _ _=>s.nm.length-(intOf i).toNat);case atStart=>exact⟨0,Nat.zero_le _,rfl,Q.out,cZ.out⟩
  case round=>
   obtain⟨j,dr,rfl,q,t⟩:=hrel;have a1:cw ((aw j).foldl ea E) ot nt∧((aw j).foldl ea E).nm=E.nm:=hX (P:=fun s=>cw s ot nt∧s.nm=E.nm) _ _ ⟨bS.out,rfl⟩ fun s j _ h=>⟨zY h.1 j,(JG s j).trans h.2⟩
   have bI:Hid ((aw (j+1)).foldl ea E=ea ((aw j).foldl ea E) j):=by unfold Hid;rw[List.range_succ,List.foldl_append,List.foldl_cons,List.foldl_nil]
   by_cases hj:j<s.nm.length
   ·have o:=q.rows.own .nm;simp only[cf,ch,dD,dE,a1.2]at o;rw[ac.out,bv.out]at o;obtain⟨gm,rfl,-,dB,-,cz,-⟩:=o.cell (by omega)
    have dq:wr.cell? ⟨gm,j,none⟩=some (.int .i64 (ge E.nm j)):=cz j _ (by
     have:j<E.nm.length:=by rw[bv.out];exact hj
     simp[aV,ge,bb,aE this])
    have dt:(0:Int)≤(j:Int):=by omega
    have dv:(j:Int)<(s.nm.length:Int):=by omega
    have cB:ge E.nm j∈E.nm:=by
     have:j<E.nm.length:=by rw[bv.out];exact hj
     simp only[ge,dy,bb,aE this,Option.getD_some];exact aK _
    have cA:=bS.out.iA.2.2.2 _ cB;have aQ:j<nt.length:=by rw[←bO.out];exact hj
    have dw:j≤1000000:=by omega
    have bC:Hid (ea ((aw j).foldl ea E) j=if 0≤ge E.nm j then du ((aw j).foldl ea E) j 0 (ge E.nm j).toNat 0 else(aw j).foldl ea E):=by unfold Hid;rw[JF,a1.2]
    have aP:=aa a1.1;have bm:=aa q;have bq:=aa t;generalize ge E.nm j=x at*;clear q t a1 o cz cB;generalize(aw j).foldl ea E=dp at*;by_cases cF:0≤x
    ·obtain⟨k,rfl⟩:∃k:Nat,x=k:=⟨x.toNat,by omega⟩
     rw[if_pos cF,dy]at bC;have cS:=aa (uB bm.out j 0 k 0 (by rw[aP.out.rl];exact aQ) (by rw[aP.out.gZ j aQ,Tree.size_eq];omega) (by rw[aP.out.nl];exact aQ) (by rw[aP.out.gY j aQ,Tree.size_eq];omega) (by rw[aP.out.ol];omega) (by rw[aP.out.mR k (by omega),Tree.size_eq];omega));clear aQ cA;go_wp2_with(go_at_call 56;refine cS.out.mono ?_;rintro e dA ⟨rfl,cG,cK⟩;have cY:=aa cG;have c6:=aa (bq.out.trans (cK.mono fun b e=>by rcases e with e|e|e<;>exact⟨_,e⟩));clear cG cK);go_roundw;case rel=>exact⟨j+1,by omega,by go_num,by rw[bI.out,bC.out];exact cY.out,c6.out⟩
     case measure=>simp[intOf];omega
    ·rw[if_neg cF]at bC;clear aQ cA;go_wp2_with fail;go_roundw;case rel=>exact⟨j+1,by omega,by go_num,by rw[bI.out,bC.out];exact bm.out,bq.out⟩
     case measure=>simp[intOf];omega
   ·obtain rfl:j=s.nm.length:=by omega
    have bm:=aa q;have bq:=aa t;clear q t a1 bI;go_wp2_with fail;refine bodyPost_end (j0 rfl _ _ _) rfl ?_;rw[cU.out,bv.out];exact⟨rfl,bm.out,bq.out⟩
end
def l4(budget:Int)(ot nt:List Tree)(s:bp):bp:=
 let e:=dh s.oa s.na (la (aj 0 ot)) (km (aj 0 nt) s.nm);let f:=dh e.1 e.2 (iw (aj 0 ot)) (iw (aj 0 nt));let a:=eX f.1 f.2 (fun i j=>hI budget ((aj 0 ot).getD i default).t ((aj 0 nt).getD j default).t) (ix (aj 0 ot)) (ix (aj 0 nt))
 {s with oa:=a.1,na:=a.2}
theorem HC{budget:Int}{ot nt:List Tree}{s:bp}(h:cw s ot nt):cw (l4 budget ot nt s) ot nt:=by have:=rF (o2 (o2 h.dS (la (aj 0 ot)) (km (aj 0 nt) s.nm)) (iw (aj 0 ot)) (iw (aj 0 nt))) (fun i j=>hI budget ((aj 0 ot).getD i default).t ((aj 0 nt).getD j default).t) (ix (aj 0 ot)) (ix (aj 0 nt));unfold l4;exact⟨h.iA,this,h.ol,h.nl,h.rl,h.mR,h.gY,h.gZ⟩
section
variable {h:Hp} {w:World} {B xb so sn:Nat} {budget:Int} {V:eL→Value} {s:bp} {ot nt:List Tree} {mr nr:List Nat} {kv dR:Value}
theorem Bl{B:Nat}{E A:Value}{a b:List Value}{n m:Nat}(M:Ow w h B 3 1 E n a)(G:Ow w h B 3 1 A m b):∀k,(E.ownBlock=some k∨A.ownBlock=some k)→h k=none:=fun k e=>by
 rcases e with e|e;·exact M.free k e
 ·exact G.free k e
theorem JC{B cb:Nat}{E A:Value}{M G nm:List Int}(x:iU h w xb so sn budget)(am:B≤w.heap.size){mv av eo eN:Value}(K:cC h so ot mr mv av kv)(ak:cC h sn nt nr eo eN dR)(Y:Has w cb #[az (some ⟨xb,0,none⟩)])(ad:Ow w h B 3 1 E M.length (aV M))(ac:Ow w h B 3 1 A G.length (aV G))(om:Ow w h B 3 1 eo nm.length (aV nm))(ap:cj E A)(O:∀k,(E.ownBlock=some k∨A.ownBlock=some k)→k≠cb∧k≠xb∧eo.ownBlock≠some k)(aL:M.length=(aj 0 ot).length)(aJ:G.length=(aj 0 nt).length)(aB:nm.length=nt.length)(b1:e7 ot)(b2:e7 nt):Calls ai 51 #[E,A,.func (.func 57) #[] #[az (some ⟨cb,0,none⟩)],.func (.func 58) #[] #[az (some ⟨cb,0,none⟩)]] w fun e w'=>e= .returned (bD #[])∧Ow w' h B 3 1 E M.length (aV (dh M G (la (aj 0 ot)) (km (aj 0 nt) nm)).1)∧Ow w' h B 3 1 A G.length (aV (dh M G (la (aj 0 ot)) (km (aj 0 nt) nm)).2)∧Tu (fun k=>E.ownBlock=some k∨A.ownBlock=some k) w w':=by
 have ab:=Bl ad ac;have aG:=b1.dS;have l2:=b2.dS;refine s8 h w x.I am E A M G ad ac ap (by omega) (by omega) 57 58 _ _ (fun _ _=>by kernel_rfl) (fun _ _=>by kernel_rfl) (fun W=>Tu (fun k=>E.ownBlock=some k∨A.ownBlock=some k) w W) (Tu.refl _ _) (fun _ _ a b=>a.trans b) _ _ (fun i ax W t=> ?_) (fun i ax W t=> ?_);·exact FG (x.tu t fun b e=>⟨ab b e,(O b e).2.1⟩) K (Y.tu t fun e=>(O _ e).1 rfl) i (by omega)
 ·refine FH (x.tu t fun b e=>⟨ab b e,(O b e).2.1⟩) ak nm (om.mO t fun b ao e=>(O b e).2.2 ao) (Y.tu t fun e=>(O _ e).1 rfl) i (by omega) ?_;rw[aB,bb,aE (by omega)];exact b2.mod _ (aK _)
theorem JD{B g1 O:Nat}{E A:Value}{M G:List Int}(Y:ao h w)(aG:B≤w.heap.size){mv av eo eN:Value}(K:cC h so ot mr mv av kv)(aB:cC h sn nt nr eo eN dR)(am:Has w g1 #[az (some ⟨so,0,none⟩)])(ax:Has w O #[az (some ⟨sn,0,none⟩)])(ak:Ow w h B 3 1 E M.length (aV M))(ad:Ow w h B 3 1 A G.length (aV G))(ap:cj E A)(ac:∀k,(E.ownBlock=some k∨A.ownBlock=some k)→k≠g1∧k≠O)(aN:M.length=(aj 0 ot).length)(aM:G.length=(aj 0 nt).length)(b1:e7 ot)(b2:e7 nt):Calls ai 51 #[E,A,.func (.func 60) #[] #[az (some ⟨g1,0,none⟩)],.func (.func 60) #[] #[az (some ⟨O,0,none⟩)]] w fun e w'=>e= .returned (bD #[])∧Ow w' h B 3 1 E M.length (aV (dh M G (iw (aj 0 ot)) (iw (aj 0 nt))).1)∧Ow w' h B 3 1 A G.length (aV (dh M G (iw (aj 0 ot)) (iw (aj 0 nt))).2)∧Tu (fun k=>E.ownBlock=some k∨A.ownBlock=some k) w w':=by
 have ab:=Bl ak ad;have aL:=b1.dS;have l2:=b2.dS;refine s8 h w Y aG E A M G ak ad ap (by omega) (by omega) 60 60 _ _ (fun _ _=>by kernel_rfl) (fun _ _=>by kernel_rfl) (fun W=>Tu (fun k=>E.ownBlock=some k∨A.ownBlock=some k) w W) (Tu.refl _ _) (fun _ _ a b=>a.trans b) _ _ (fun i aJ W t=> ?_) (fun i aJ W t=> ?_);·exact yw (t.I Y ab) K (am.tu t fun e=>(ac _ e).1 rfl) i (by omega)
 ·exact yw (t.I Y ab) aB (ax.tu t fun e=>(ac _ e).2 rfl) i (by omega)
theorem e7.sz{ts:List Tree}(b:e7 ts){i:Nat}(A:i<(aj 0 ts).length):((aj 0 ts).getD i default).t.size≤262144:=by rw[bb,aE A];exact b.size _ (aK A)
theorem JE{B g1 Y:Nat}{M G:Value}{E A:List Int}(x:iU h w xb so sn budget)(am:aG budget)(ak:B≤w.heap.size){mv av eo eN:Value}(K:cC h so ot mr mv av kv)(O:cC h sn nt nr eo eN dR)(ac:Has w g1 #[az (some ⟨so,0,none⟩)])(ad:Has w Y #[az (some ⟨sn,0,none⟩)])(aB:Ow w h B 3 1 M E.length (aV E))(ax:Ow w h B 3 1 G A.length (aV A))(ap:cj M G)(aM:E.length=(aj 0 ot).length)(aL:A.length=(aj 0 nt).length)(b1:e7 ot)(b2:e7 nt)(ao:∀i j,i<(aj 0 ot).length→j<(aj 0 nt).length→0≤hI budget ((aj 0 ot).getD i default).t ((aj 0 nt).getD j default).t∧hI budget ((aj 0 ot).getD i default).t ((aj 0 nt).getD j default).t≤1048576):
  Calls ai 54 #[M,G,.func (.func 63) #[az (some ⟨xb,0,none⟩)] #[],.func (.func 62) #[] #[az (some ⟨g1,0,none⟩)],.func (.func 62) #[] #[az (some ⟨Y,0,none⟩)]] w fun e w'=>e= .returned (bD #[])∧Ow w' h B 3 1 M E.length (aV (eX E A (fun i j=>hI budget ((aj 0 ot).getD i default).t ((aj 0 nt).getD j default).t) (ix (aj 0 ot)) (ix (aj 0 nt))).1)∧Ow w' h B 3 1 G A.length (aV (eX E A (fun i j=>hI budget ((aj 0 ot).getD i default).t ((aj 0 nt).getD j default).t) (ix (aj 0 ot)) (ix (aj 0 nt))).2)∧Tu (fun k=>M.ownBlock=some k∨G.ownBlock=some k) w w':=by
 have aJ:=b1.dS;have l2:=b2.dS;refine wm h w x.I ak M G E A aB ax ap (by omega) (by omega) 63 62 62 _ _ _ (fun _ _=>by kernel_rfl) (fun _ _=>by kernel_rfl) (fun _ _=>by kernel_rfl) (fun W=>Below w.heap.size w W) (aD _ _) (fun _ _ a b=>a.trans b) _ _ _ (fun i j ab hj=>⟨ao i j (by omega) (by omega),fun W b=> ?_⟩) (fun i ab=>⟨?_,fun W b=> ?_⟩) (fun i ab=>⟨?_,fun W b=> ?_⟩);·exact FI (x.below b) am K O i j (by omega) (by omega) (b1.sz (by omega)) (b2.sz (by omega))
 ·have:=b1.sz (i:=i) (by omega);unfold ix;omega
 ·exact yx (x.I.below b) K (ac.below b) i (by omega) (b5 (b1.sz (by omega)) (by omega))
 ·have:=b2.sz (i:=i) (by omega);unfold ix;omega
 ·exact yx (x.I.below b) O (ad.below b) i (by omega) (b5 (b2.sz (by omega)) (by omega))
theorem bH.vu(q:bH h w B xb so sn budget V s){w1:World}(oa na:List Int)(A:oa.length=s.oa.length)(l2:na.length=s.na.length)(E:Ow w1 h B 3 1 (V .oa) s.oa.length (aV oa))(G:Ow w1 h B 3 1 (V .na) s.na.length (aV na))(t:Tu (fun k=>(V .oa).ownBlock=some k∨(V .na).ownBlock=some k) w w1):bH h w1 B xb so sn budget V {s with oa:=oa,na:=na}∧Tu (e4 V) w w1:=by
 refine⟨q.yK (fun k=>k= .oa∨k= .na) (t.mono fun b e=> ?_) (fun k e=> ?_) (fun k e=> ?_) rfl rfl rfl rfl rfl,t.mono fun b e=> ?_⟩
 ·rcases e with e|e;·exact⟨.oa,.inl rfl,e⟩
  ·exact⟨.na,.inr rfl,e⟩
 ·rcases e with rfl|rfl;·simp only[dD,dE,cf,ch,A];exact E
  ·simp only[dD,dE,cf,ch,l2];exact G
 ·cases k with
  |oa=>exact absurd (.inl rfl) e
  |na=>exact absurd (.inr rfl) e
  |_=>exact⟨rfl,rfl⟩
 ·rcases e with e|e;·exact⟨.oa,e⟩
  ·exact⟨.na,e⟩
theorem HB(q:bH h w B xb so sn budget V s)(cQ:aG budget)(K:cC h so ot mr (V .om) (V .oa) kv)(ce:cC h sn nt nr (V .nm) (V .na) dR)(sh:cw s ot nt)(b1:e7 ot)(b2:e7 nt)(ct:B≤w.heap.size)(cS:∀i j,i<(aj 0 ot).length→j<(aj 0 nt).length→0≤hI budget ((aj 0 ot).getD i default).t ((aj 0 nt).getD j default).t∧hI budget ((aj 0 ot).getD i default).t ((aj 0 nt).getD j default).t≤1048576):Calls ai 26 #[az (some ⟨xb,0,none⟩)] w fun e w'=>e= .returned (bD #[])∧bH h w' B xb so sn budget V (l4 budget ot nt s)∧Tu (e4 V) w w':=by
 have X:=aa q.ci;have aL:=X.out.c0;have aM:=X.out.c1;have aP:=X.out.lt;obtain⟨tv,cv,cn,ac,-,-,-⟩:=K.box;obtain⟨cA,cz,co,ad,-,-,-⟩:=ce.box;have ak:w.cell? ⟨so,4,none⟩=some (V .oa):=cu X.out.I ac 4;have am:w.cell? ⟨sn,4,none⟩=some (V .na):=cu X.out.I ad 4;have a4:=cD (X.out.I _ _ ac);have a5:=cD (X.out.I _ _ ad);have M:=aa (q.rows.own .oa);have O:=aa (q.rows.own .na);have bR:=aa (q.rows.own .nm);have bv:=aa (q.rows.apart .oa .na (by simp));have bZ:=aa (q.rows.apart .oa .nm (by simp));have b0:=aa (q.rows.apart .na .nm (by simp));obtain⟨bz,c1,bE⟩:=M.out.shape;obtain⟨bA,c2,bG⟩:=O.out.shape;simp only[cf]at bE bG;have Y:=aa bE;have ab:=aa bG;simp only[cf,ch,dD,dE]at M O bR;rw[bE]at ak M bv bZ;rw[bG]at am O bv b0;have cd:=aa q.rG
 have cj:Hid (∀k,((ag bz s.oa.length c1).ownBlock=some k∨(ag bA s.na.length c2).ownBlock=some k)→k<w.heap.size∧k≠xb∧(V .nm).ownBlock≠some k):=fun k e=>by
  rcases e with e|e;·exact⟨(M.out.lt k e).2,(cd.out k ⟨.oa,by rw[bE];exact e⟩).2,bZ.out k e⟩
  ·exact⟨(O.out.lt k e).2,(cd.out k ⟨.na,by rw[bG];exact e⟩).2,b0.out k e⟩
 have aQ:=aa K;have aS:=aa ce;have Q:=aa q;have ci:=aa sh;have cZ:=aa sh.dS.1;have cY:=aa sh.dS.2.1;have cX:=aa sh.iA.2.1;have b9:=aa b1;have cc:=aa b2;have cU:=aa cQ;have cV:=aa cS;clear q K ce ac ad bE bG sh b1 b2 cQ cS bZ b0 cd;obtain⟨bm,bY⟩:∃bm,bm=dh s.oa s.na (la (aj 0 ot)) (km (aj 0 nt) s.nm):=⟨_,rfl⟩
 obtain⟨F,hF⟩:∃F,F=dh bm.1 bm.2 (iw (aj 0 ot)) (iw (aj 0 nt)):=⟨_,rfl⟩
 obtain⟨bg,bX⟩:∃bg,bg=eX F.1 F.2 (fun i j=>hI budget ((aj 0 ot).getD i default).t ((aj 0 nt).getD j default).t) (ix (aj 0 ot)) (ix (aj 0 nt)):=⟨_,rfl⟩
 have MM:Hid (l4 budget ot nt s={s with oa:=bg.1,na:=bg.2}):=by unfold Hid;rw[bX,hF,bY];rfl
 have a8:Hid (iW bm.1 bm.2 (aj 0 ot).length (aj 0 nt).length):=by unfold Hid;rw[bY];exact o2 ci.out.dS _ _
 have a9:Hid (iW F.1 F.2 (aj 0 ot).length (aj 0 nt).length):=by unfold Hid;rw[hF];exact o2 a8.out _ _
 have cF:Hid (iW bg.1 bg.2 (aj 0 ot).length (aj 0 nt).length):=by unfold Hid;rw[bX];exact rF a9.out _ _ _
 have cK:=aa bY;have cM:=aa hF;have cG:=aa bX;clear bY hF bX;go_enter Tryz.func26,Tryz.ntmps26;go_wp2_with fail;have ao:=aa (Has.new w #[az (some ⟨xb,0,none⟩)] 53);have B0:=aa ((aD w.heap.size w).alloc (Nat.le_refl _) (.cells #[az (some ⟨xb,0,none⟩)] 53));generalize w.alloc (.cells #[az (some ⟨xb,0,none⟩)] 53)=w0 at ao B0⊢;have cg:Hid (∀k,e4 V k→k≠w.heap.size):=fun k ⟨r,e⟩=>by have:=((Q.out.rows.own r).lt k e).2;omega
 have bS:=aa (Q.out.below B0.out);have c9:=aa ((Tu.refl (e4 V) w).below B0.out);have bR:=aa (bR.out.same B0.out);clear X aL aM aP ak am a4 a5 M O;have X:=aa bS.out.ci;have aL:=X.out.c0;have aM:=X.out.c1;have aP:=X.out.lt;obtain⟨tv,cv,cn,ac,-,-,-⟩:=aQ.out.box;obtain⟨cA,cz,co,ad,-,-,-⟩:=aS.out.box;have ak:w0.cell? ⟨so,4,none⟩=some (V .oa):=cu X.out.I ac 4;have am:w0.cell? ⟨sn,4,none⟩=some (V .na):=cu X.out.I ad 4;rw[Y.out]at ak;rw[ab.out]at am;have a4:=cD (X.out.I _ _ ac);have a5:=cD (X.out.I _ _ ad);have M:=aa (bS.out.rows.own .oa);have O:=aa (bS.out.rows.own .na);simp only[cf,ch,dD,dE]at M O;rw[Y.out]at M;rw[ab.out]at O;have bq:=ao.out.lt;have ax:=ao.out.cl 0;simp only[bw,bc]at ax;clear ac ad;have c8:Hid (∀k,((ag bz s.oa.length c1).ownBlock=some k∨(ag bA s.na.length c2).ownBlock=some k)→k≠w.heap.size∧k≠xb∧(V .nm).ownBlock≠some k):=fun k e=>⟨by have:=(cj.out k e).1;omega,(cj.out k e).2⟩
 have bp:B≤w0.heap.size:=b5 ct B0.out.size
 go_region_held3(fun w'=>w'.cell? ⟨w.heap.size,0,none⟩=some (az (some ⟨xb,0,none⟩))∧w'.cell? ⟨xb,0,none⟩=some (az (some ⟨so,0,none⟩))∧w'.cell? ⟨xb,1,none⟩=some (az (some ⟨sn,0,none⟩))∧w'.cell? ⟨so,4,none⟩=some (ag bz s.oa.length c1)∧w'.cell? ⟨sn,4,none⟩=some (ag bA s.na.length c2)) (first|(go_keep;done)|exact⟨aO,ba,k1,k2,k3⟩|exact⟨ax,aL,aM,ak,am⟩) (first
  |(go_at_call 51;refine(JC (X.out.below (aD _ _).drew) bp aQ.out aS.out (ao.out.below (aD _ _).drew) (M.out.drew) (O.out.drew) (bR.out.drew) bv.out c8.out cZ.out cY.out cX.out b9.out cc.out).mono ?_;rintro e a3 ⟨rfl,aB,aJ,E⟩;rw[←Y.out,←ab.out]at E;rw[←cK.out,←Y.out]at aB;rw[←cK.out,←ab.out]at aJ;have bL:=E;obtain⟨G,E⟩:=(bS.out.below (aD _ _).drew).vu _ _ (a8.out.1.trans ci.out.dS.1.symm) (a8.out.2.1.trans ci.out.dS.2.1.symm) aB aJ E;have bV:=aa G;have cm:=aa ((c9.out.drew).trans E);have aT:=aa ((ao.out.drew).tu E (fun e=>cg.out _ e rfl));have ba:=G.ci.c0;have k1:=G.ci.c1;obtain⟨bN,bI,bB,a1,-,-,-⟩:=aQ.out.box;obtain⟨bO,bJ,bC,a2,-,-,-⟩:=aS.out.box;have k2:=cu G.I a1 4;have k3:=cu G.I a2 4;rw[show(#[bN,bI,bB,V .om,V .oa,kv]:Array Value)[4]? =some (V .oa)from rfl,Y.out]at k2;rw[show(#[bO,bJ,bC,V .nm,V .na,dR]:Array Value)[4]? =some (V .na)from rfl,ab.out]at k3;have aO:=aT.out.cl 0;simp only[bw,bc]at aO;clear G E bL aB aJ a1 a2))
 have ao:=aT;clear aT aO ba k1 k2 k3 X aL aM aP ak am a4 a5 M O ax bq;have X:=aa bV.out.ci;have aL:=X.out.c0;have aM:=X.out.c1;have aP:=X.out.lt;obtain⟨tv,cv,cn,ac,-,-,-⟩:=aQ.out.box;obtain⟨cA,cz,co,ad,-,-,-⟩:=aS.out.box;have ak:a3.cell? ⟨so,4,none⟩=some (V .oa):=cu X.out.I ac 4;have am:a3.cell? ⟨sn,4,none⟩=some (V .na):=cu X.out.I ad 4;rw[Y.out]at ak;rw[ab.out]at am;have a4:=cD (X.out.I _ _ ac);have a5:=cD (X.out.I _ _ ad);have M:=aa (bV.out.rows.own .oa);have O:=aa (bV.out.rows.own .na);simp only[cf,ch,dD,dE]at M O;rw[Y.out]at M;rw[ab.out]at O;have bq:=ao.out.lt;have ax:=ao.out.cl 0;simp only[bw,bc]at ax;clear ac ad;have bp:B≤a3.heap.size:=b5 ct cm.out.size;have aN:=cm.out.size;go_wp2_with fail
 go_region_held3(fun w'=>w'.cell? ⟨w.heap.size,0,none⟩=some (az (some ⟨xb,0,none⟩))∧w'.cell? ⟨xb,0,none⟩=some (az (some ⟨so,0,none⟩))∧w'.cell? ⟨xb,1,none⟩=some (az (some ⟨sn,0,none⟩))∧w'.cell? ⟨so,4,none⟩=some (ag bz s.oa.length c1)∧w'.cell? ⟨sn,4,none⟩=some (ag bA s.na.length c2)) (first|(go_keep;done)|exact⟨aO,ba,k1,k2,k3⟩|exact⟨ax,aL,aM,ak,am⟩|exact⟨(A.out.cell bq).trans ax,(A.out.cell aP).trans aL,(A.out.cell aP).trans aM,(A.out.cell a4).trans ak,(A.out.cell a5).trans am⟩) (first
  |(go_at_call 59;(with_reducible refine(yu so).mono ?_);rintro e cB ⟨g1,rfl,h1,aV,bd⟩;have aY:=aa h1;(try(have aZ:=aa (aZ.out.below aV)));have cN:w.heap.size≤g1:=(by first|exact b5 aN (b5 A.out.size bd)|exact b5 aN bd);have A:Hid (Below a3.heap.size a3 cB):=(by first|exact A.out.trans (aV.mono A.out.size)|exact((aD _ _).drew).trans aV);clear h1 aV bd)
  |(go_at_call 59;(with_reducible refine(yu sn).mono ?_);rintro e cE ⟨cq,rfl,h2,aX,l2⟩;have aZ:=aa h2;(try(have aY:=aa (aY.out.below aX)));have L2:w.heap.size≤cq:=(by first|exact b5 aN (b5 A.out.size l2)|exact b5 aN l2);have A:Hid (Below a3.heap.size a3 cE):=(by first|exact A.out.trans (aX.mono A.out.size)|exact((aD _ _).drew).trans aX);clear h2 aX l2)
  |(go_at_call 51;refine(JD (X.out.I.below A.out) (b5 bp A.out.size) aQ.out aS.out aY.out aZ.out (M.out.same A.out) (O.out.same A.out) bv.out (fun k e=>by have:=(cj.out k e).1;constructor<;>omega) a8.out.1 a8.out.2.1 b9.out cc.out).mono ?_;rintro e iP ⟨rfl,aB,aJ,E⟩;rw[←Y.out,←ab.out]at E;rw[←cM.out,←Y.out]at aB;rw[←cM.out,←ab.out]at aJ;have bL:=E;obtain⟨G,E⟩:=(bV.out.below A.out).vu _ _ (a9.out.1.trans a8.out.1.symm) (a9.out.2.1.trans a8.out.2.1.symm) aB aJ E;have bT:=aa G;have cl:=aa (cm.out.trans (((Tu.refl (e4 V) a3).below A.out).trans E));have aT:=aa ((ao.out.below A.out).tu E (fun e=>cg.out _ e rfl));have ba:=G.ci.c0;have k1:=G.ci.c1;obtain⟨bN,bI,bB,a1,-,-,-⟩:=aQ.out.box;obtain⟨bO,bJ,bC,a2,-,-,-⟩:=aS.out.box;have k2:=cu G.I a1 4;have k3:=cu G.I a2 4;rw[show(#[bN,bI,bB,V .om,V .oa,kv]:Array Value)[4]? =some (V .oa)from rfl,Y.out]at k2;rw[show(#[bO,bJ,bC,V .nm,V .na,dR]:Array Value)[4]? =some (V .na)from rfl,ab.out]at k3;have aO:=aT.out.cl 0;simp only[bw,bc]at aO;clear G E bL aB aJ a1 a2))
 have ao:=aT;clear aY aZ cN L2 A aT aO ba k1 k2 k3 X aL aM aP ak am a4 a5 M O ax bq bp aN;have X:=aa bT.out.ci;have aL:=X.out.c0;have aM:=X.out.c1;have aP:=X.out.lt;obtain⟨tv,cv,cn,ac,-,-,-⟩:=aQ.out.box;obtain⟨cA,cz,co,ad,-,-,-⟩:=aS.out.box;have ak:iP.cell? ⟨so,4,none⟩=some (V .oa):=cu X.out.I ac 4;have am:iP.cell? ⟨sn,4,none⟩=some (V .na):=cu X.out.I ad 4;rw[Y.out]at ak;rw[ab.out]at am;have a4:=cD (X.out.I _ _ ac);have a5:=cD (X.out.I _ _ ad);have M:=aa (bT.out.rows.own .oa);have O:=aa (bT.out.rows.own .na);simp only[cf,ch,dD,dE]at M O;rw[Y.out]at M;rw[ab.out]at O;have bq:=ao.out.lt;have ax:=ao.out.cl 0;simp only[bw,bc]at ax;clear ac ad;have bp:B≤iP.heap.size:=b5 ct cl.out.size;have aN:=cl.out.size;go_wp2_with fail
 go_region_held3(fun w'=>w'.cell? ⟨w.heap.size,0,none⟩=some (az (some ⟨xb,0,none⟩))∧w'.cell? ⟨xb,0,none⟩=some (az (some ⟨so,0,none⟩))∧w'.cell? ⟨xb,1,none⟩=some (az (some ⟨sn,0,none⟩))∧w'.cell? ⟨so,4,none⟩=some (ag bz s.oa.length c1)∧w'.cell? ⟨sn,4,none⟩=some (ag bA s.na.length c2)) (first|(go_keep;done)|exact⟨aO,ba,k1,k2,k3⟩|exact⟨ax,aL,aM,ak,am⟩|exact⟨(A.out.cell bq).trans ax,(A.out.cell aP).trans aL,(A.out.cell aP).trans aM,(A.out.cell a4).trans ak,(A.out.cell a5).trans am⟩) (first
  |(go_at_call 61;(with_reducible refine(yv so).mono ?_);rintro e cB ⟨g1,rfl,h1,aV,bd⟩;have aY:=aa h1;(try(have aZ:=aa (aZ.out.below aV)));have cN:w.heap.size≤g1:=(by first|exact b5 aN (b5 A.out.size bd)|exact b5 aN bd);have A:Hid (Below iP.heap.size iP cB):=(by first|exact A.out.trans (aV.mono A.out.size)|exact((aD _ _).drew).trans aV);clear h1 aV bd)
  |(go_at_call 61;(with_reducible refine(yv sn).mono ?_);rintro e cE ⟨cq,rfl,h2,aX,l2⟩;have aZ:=aa h2;(try(have aY:=aa (aY.out.below aX)));have L2:w.heap.size≤cq:=(by first|exact b5 aN (b5 A.out.size l2)|exact b5 aN l2);have A:Hid (Below iP.heap.size iP cE):=(by first|exact A.out.trans (aX.mono A.out.size)|exact((aD _ _).drew).trans aX);clear h2 aX l2)
  |(go_at_call 54;refine(JE (X.out.below A.out) cU.out (b5 bp A.out.size) aQ.out aS.out aY.out aZ.out (M.out.same A.out) (O.out.same A.out) bv.out a9.out.1 a9.out.2.1 b9.out cc.out cV.out).mono ?_;rintro e de ⟨rfl,aB,aJ,E⟩;rw[←Y.out,←ab.out]at E;rw[←cG.out,←Y.out]at aB;rw[←cG.out,←ab.out]at aJ;have bL:=E;obtain⟨G,E⟩:=(bT.out.below A.out).vu _ _ (cF.out.1.trans a9.out.1.symm) (cF.out.2.1.trans a9.out.2.1.symm) aB aJ E;have c6:=aa G;have db:=aa (cl.out.trans (((Tu.refl (e4 V) iP).below A.out).trans E));have aT:=aa ((ao.out.below A.out).tu E (fun e=>cg.out _ e rfl));have ba:=G.ci.c0;have k1:=G.ci.c1;obtain⟨bN,bI,bB,a1,-,-,-⟩:=aQ.out.box;obtain⟨bO,bJ,bC,a2,-,-,-⟩:=aS.out.box;have k2:=cu G.I a1 4;have k3:=cu G.I a2 4;rw[show(#[bN,bI,bB,V .om,V .oa,kv]:Array Value)[4]? =some (V .oa)from rfl,Y.out]at k2;rw[show(#[bO,bJ,bC,V .nm,V .na,dR]:Array Value)[4]? =some (V .na)from rfl,ab.out]at k3;have aO:=aT.out.cl 0;simp only[bw,bc]at aO;clear G E bL aB aJ a1 a2))
 all_goals
  go_wp2_with fail;refine bodyPost_end (j0 rfl _ _ _) rfl ?_;rw[MM.out];exact⟨rfl,c6.out,db.out⟩
end
end Go.Proofs.YtdplggpbgommnaaGreatDoor
