/- Pair's state: lengths and ranges; several rows written at once. -/
import Derived.Test.YtdplggpbgommnaaGreatDoorG15
open Go.Lib renaming hid->aa
open Go.Proofs.Tryz renaming prog->ai
open Go.RowKit.Below renaming refl->aD
open Go.Value renaming pointer->az,slice->ag,tuple->bD
open Int renaming toNat_natCast->dy
open List renaming getD_eq_getElem?_getD->bb,getElem?_eq_getElem->aE,getElem_mem->aK,mem_map->b6,mem_or_eq_of_mem_set->qu,range->aw
open Nat renaming le_trans->b5
set_option maxRecDepth 100000
set_option maxHeartbeats 8000000
namespace Go.Proofs.YtdplggpbgommnaaGreatDoor
open Go.RowKit
def iW(aI new:List Int)(n m:Nat):Prop:=aI.length=n/\new.length=m/\(∀x∈aI,x<m)/\∀x∈new,x<n
theorem iW.set{G new:List Int}{n m:Nat}(h:iW G new n m){i j J O:Nat}(Y:i<n)(hj:j<m):iW (G.set J (j:Int)) (new.set O (i:Int)) n m:=by
 refine⟨by simp[h.1],by simp[h.2.1],fun x hx=> ?_,fun x hx=> ?_⟩
 ·rcases qu hx with q|rfl;·exact h.2.2.1 x q
  ·omega
 ·rcases qu hx with q|rfl;·exact h.2.2.2 x q
  ·omega
theorem FY{K α:Type}[DecidableEq K]{l:List (K×List α)}{P:α->Prop}(h:∀q∈l,∀x∈q.2,P x)(k:K):∀x∈(aT l k).getD [],P x:=by
 intro x hx;cases hg:aT l k with
 |none=>rw[hg]at hx;cases hx
 |some v=>obtain⟨q,G,rfl⟩:=yH hg;rw[hg]at hx;exact h q G x hx
theorem o2{G new:List Int}{n m:Nat}(h:iW G new n m)(ok O:Nat->Option dX):iW (dh G new ok O).1 (dh G new ok O).2 n m:=by
 unfold dh;have key:=hX (P:=fun(s:List (dX×List Nat)×List Int×List Int)=>(∀q∈s.1,∀x∈q.2,x<n)/\iW s.2.1 s.2.2 n m) (f:=gx O) (aw new.length) (iK G ok G.length,G,new) ⟨by rw[h.1];exact wM G ok n,h⟩ ?_;·exact key.2
 ·rintro⟨g,o,w⟩ j hj ⟨J,hm⟩;have Y:j<m:=by have:=List.mem_range.1 hj;rw[h.2.1]at this;exact this
  unfold gx;cases O j with
  |none=>exact⟨J,hm⟩
  |some k=>
   simp only;split;·exact⟨J,hm⟩
   ·have ha:=FY J k;generalize(aT g k).getD []=x at ha;cases x with
    |nil=>exact⟨J,hm⟩
    |cons i r=>
     refine⟨fun q ab=> ?_,hm.set (ha i List.mem_cons_self) Y⟩;rcases oM ab with aj|rfl;·exact J q aj
     ·exact fun x hx=>ha x (List.mem_cons_of_mem _ hx)
theorem rF{G new:List Int}{n m:Nat}(h:iW G new n m)(cost:Nat->Nat->Int)(drop add:Nat->Int):iW (eX G new cost drop add).1 (eX G new cost drop add).2 n m:=by
 unfold eX;simp only;split;·exact h
 ·unfold nC;refine hX (P:=fun(s:List Int×List Int)=>iW s.1 s.2 n m) _ _ h fun s i J hs=> ?_;unfold oJ;split
  ·rename_i hc;have h1:(dp G).getD i 0<n:=by rw[bb,aE hc.1,<-h.1];exact qJ (aK _)
   have h2:(dp new).getD (ge (mA (gp (dp G) (dp new) cost drop add)) i).toNat 0<m:=by rw[bb,aE (by have:=hc.2.1;have:=hc.2.2.1;omega),<-h.2.1];exact qJ (aK _)
   exact hs.set h1 h2
  ·exact hs
structure cw(s:bp)(ot nt:List Tree):Prop where
 iA:iW s.om s.nm ot.length nt.length
 dS:iW s.oa s.na (aj 0 ot).length (aj 0 nt).length
 ol:s.ot.length=ot.length
 nl:s.nt.length=nt.length
 rl:s.rs.length=nt.length
 mR:∀i,i<ot.length->(s.ot.getD i []).length=(ot.getD i default).size
 gY:∀i,i<nt.length->(s.nt.getD i []).length=(nt.getD i default).size
 gZ:∀i,i<nt.length->(s.rs.getD i []).length=(nt.getD i default).size
theorem cw.node{s:bp}{ot nt:List Tree}(h:cw s ot nt)(m n t k:Nat):cw (du s m n t k) ot nt:=
 ⟨h.iA,h.dS,by simp[du,eM,h.ol],by simp[du,eM,h.nl],by simp[du,eM,h.rl],fun i G=>by simp only[du,lW];exact h.mR i G,fun i G=>by simp only[du,lW];exact h.gY i G,fun i G=>by simp only[du,lW];exact h.gZ i G⟩
section
variable {h:Hp} {w w1:World} {B xb so sn:Nat} {budget:Int} {V:eL->Value} {s s':bp}
theorem bH.yK(q:bH h w B xb so sn budget V s)(C:eL->Prop)(t:Tu (fun b=>∃k,C k/\(V k).ownBlock=some b) w w1)(o:∀k,C k->Ow w1 h B (dD k) (dE k) (V k) (cf s' k) (ch s' k))(O:∀k,¬C k->cf s' k=cf s k/\ch s' k=ch s k)(h1:s'.ot.length=s.ot.length)(h2:s'.nt.length=s.nt.length)(Y:s'.rs.length=s.rs.length)(ab:s'.cost=s.cost)(aj:s'.a7=s.a7):bH h w1 B xb so sn budget V s':=by
 obtain⟨ao,x,or⟩:=q.box;refine⟨t.I q.I fun b ⟨k,_,G⟩=>(q.rows.own k).free b G,⟨fun k=> ?_,q.rows.apart⟩,?_,?_,⟨ao,?_,?_⟩,q.xn,q.xr⟩
 ·by_cases J:C k;·exact o k J
  ·rw[(O k J).1,(O k J).2];refine(q.rows.own k).mO t fun b G ⟨k',am,ak⟩=> ?_;exact q.rows.apart k k' (fun e=>J (e▸am)) b G ak
 ·rw[h1];exact q.aI
 ·rw[h2];exact q.new
 ·rw[ab,aj];exact x.tu t fun⟨k,_,G⟩=>q.xr k G
 ·rw[Y];exact or
def e4(V:eL->Value)(b:Nat):Prop:=∃k,(V k).ownBlock=some b
theorem bH.rG(q:bH h w B xb so sn budget V s):∀b,e4 V b->h b=none/\b≠xb:=fun b ⟨k,G⟩=>⟨(q.rows.own k).free b G,fun e=>q.xr k (by rw[G,e])⟩
end
def iC(ot nt:List Tree)(s:bp):bp:=
 let e:=dh s.om s.nm (eC ot) (eC nt);let a:=eX e.1 e.2 (fun i j=>iT (bX (ot.getD i default).kids) (bX (nt.getD j default).kids)) (countP ot) (countP nt)
 {s with om:=a.1,nm:=a.2}
def l5(ot nt:List Tree)(s:bp):bp:=
 let t:=iC ot nt s
 (aw t.nm.length).foldl ea t
theorem zX{ot nt:List Tree}{s:bp}(h:cw s ot nt):cw (iC ot nt s) ot nt:=
 ⟨rF (o2 h.iA _ _) _ _ _,h.dS,h.ol,h.nl,h.rl,h.mR,h.gY,h.gZ⟩
theorem zY{ot nt:List Tree}{s:bp}(h:cw s ot nt)(j:Nat):cw (ea s j) ot nt:=by
 unfold ea;split;·exact h.node _ _ _ _
 ·exact h
theorem JF(s:bp)(j:Nat):ea s j=if 0<=ge s.nm j then du s j 0 (ge s.nm j).toNat 0 else s:=rfl
theorem JG(s:bp)(j:Nat):(ea s j).nm=s.nm:=by unfold ea;split<;>rfl
theorem JH{K α:Type}[DecidableEq K]{l:List (K×α)}(hn:(l.map (·.1)).Nodup)(p:K)(v:α):((aY l p v).map (·.1)).Nodup:=by
 unfold aY;cases hp:bm l p with
 |none=>rw[List.map_append,List.nodup_append];refine⟨hn,by simp,fun a ha b G=> ?_⟩;simp at G;subst G;rintro rfl;unfold bm at hp;rw[List.findIdx?_eq_none_iff]at hp;obtain⟨q,O,rfl⟩:=b6.1 ha;exact absurd (hp q O) (by simp)
 |some k=>
  have J:=fv hp
  have:(l.set k (p,v)).map (·.1)=l.map (·.1):=by
   rw[List.map_set];have:=p0 hp J;have h2:(l.map (·.1))[k]'(by rw[List.length_map];exact J)=p:=by rw[List.getElem_map];exact this
   show(l.map (·.1)).set k p=_;rw[<-h2,List.set_getElem_self]
  rw[this];exact hn
theorem JI(G:List Tree):((bX G).map (·.1)).Nodup:=by unfold bX;exact hX (P:=fun(l:List (lU×Value))=>(l.map (·.1)).Nodup) G [] List.nodup_nil fun l d _ h=>JH h _ _
theorem JJ{K α:Type}[DecidableEq K]{l:List (K×α)}{p:K}(h:(aT l p).isSome=true):p∈l.map (·.1):=by
 unfold aT at h;cases hp:bm l p with
 |none=>rw[hp]at h;cases h
 |some k=>have G:=fv hp;exact b6.2 ⟨l[k],aK G,p0 hp G⟩
theorem JK(a b:List (lU×Value))(ha:(a.map (·.1)).Nodup):hW a b<=b.length:=by
 unfold hW;have h1:((a.filter fun q=>(aT b q.1).isSome).map (·.1)).Nodup:=ha.sublist (List.filter_sublist.map _);have h2:(a.filter fun q=>(aT b q.1).isSome).map (·.1)⊆b.map (·.1):=fun p hp=>by obtain⟨q,G,rfl⟩:=b6.1 hp;exact JJ (List.mem_filter.1 G).2
 simpa using h1.length_le_of_subset h2
structure e7(ts:List Tree):Prop where
 len:ts.length<=1000000
 names:∀t∈ts,(bX t.kids).length<=500000
 dS:(aj 0 ts).length<=1000000
 size:∀d∈aj 0 ts,d.t.size<=262144
 mod:∀d∈aj 0 ts,d.module<ts.length
 num:∀d∈aj 0 ts,d.number+d.t.size<=(ts.getD d.module default).size
 lr:∀t∈ts,t.size<=1000000
section
variable {h:Hp} {w:World} {B xb so sn:Nat} {budget:Int} {V:eL->Value} {s:bp} {ot nt:List Tree} {mr nr:List Nat} {kv dR:Value}
theorem JL{B g1 g2:Nat}{J G:Value}{O new:List Int}(Y:ao h w)(aB:B<=w.heap.size){mv av eo eN:Value}(K:cC h so ot mr mv av kv)(ax:cC h sn nt nr eo eN dR)(ak:Has w g1 #[az (some ⟨so,0,none⟩)])(am:Has w g2 #[az (some ⟨sn,0,none⟩)])(aj:Ow w h B 3 1 J O.length (aV O))(on:Ow w h B 3 1 G new.length (aV new))(ap:cj J G)(hS:∀k,(J.ownBlock=some k\/G.ownBlock=some k)->k≠g1/\k≠g2)(aL:O.length=ot.length)(aJ:new.length=nt.length)(b1:ot.length<=1000000)(b2:nt.length<=1000000):Calls ai 51 #[J,G,.func (.func 50) #[] #[az (some ⟨g1,0,none⟩)],.func (.func 50) #[] #[az (some ⟨g2,0,none⟩)]] w fun e w'=>e= .returned (bD #[])/\Ow w' h B 3 1 J O.length (aV (dh O new (eC ot) (eC nt)).1)/\Ow w' h B 3 1 G new.length (aV (dh O new (eC ot) (eC nt)).2)/\Tu (fun k=>J.ownBlock=some k\/G.ownBlock=some k) w w':=by
 have ab:∀k,(J.ownBlock=some k\/G.ownBlock=some k)->h k=none:=fun k e=>by
  rcases e with e|e;·exact aj.free k e
  ·exact on.free k e
 refine s8 h w Y aB J G O new aj on ap (by omega) (by omega) 50 50 _ _ (fun _ _=>by kernel_rfl) (fun _ _=>by kernel_rfl) (fun W=>Tu (fun k=>J.ownBlock=some k\/G.ownBlock=some k) w W) (Tu.refl _ _) (fun _ _ a b=>a.trans b) (eC ot) (eC nt) (fun i aG W t=> ?_) (fun i aG W t=> ?_);·exact yr (t.I Y ab) K (ak.tu t fun e=>(hS _ e).1 rfl) i (by omega)
 ·exact yr (t.I Y ab) ax (am.tu t fun e=>(hS _ e).2 rfl) i (by omega)
theorem JM{a b:List (lU×Value)}(h1:a.length<=500000)(h2:b.length<=500000)(hs:hW a b<=b.length):0<=iT a b/\iT a b<=1048576:=by have:hW a b<=a.length:=List.length_filter_le _ _;unfold iT;split<;>omega
theorem JN{B g1 g2:Nat}{Y O:Value}{J new:List Int}(x:iU h w xb so sn budget)(ao:B<=w.heap.size){mv av eo eN:Value}(K:cC h so ot mr mv av kv)(aj:cC h sn nt nr eo eN dR)(M:iz w mr ot)(M':iz w nr nt)(ak:Has w g1 #[az (some ⟨so,0,none⟩)])(am:Has w g2 #[az (some ⟨sn,0,none⟩)])(ax:Ow w h B 3 1 Y J.length (aV J))(on:Ow w h B 3 1 O new.length (aV new))(ap:cj Y O)(aJ:J.length=ot.length)(aG:new.length=nt.length)(b1:e7 ot)(b2:e7 nt):
  Calls ai 54 #[Y,O,.func (.func 55) #[az (some ⟨xb,0,none⟩)] #[],.func (.func 53) #[] #[az (some ⟨g1,0,none⟩)],.func (.func 53) #[] #[az (some ⟨g2,0,none⟩)]] w fun e w'=>e= .returned (bD #[])/\Ow w' h B 3 1 Y J.length (aV (eX J new (fun i j=>iT (bX (ot.getD i default).kids) (bX (nt.getD j default).kids)) (countP ot) (countP nt)).1)/\Ow w' h B 3 1 O new.length (aV (eX J new (fun i j=>iT (bX (ot.getD i default).kids) (bX (nt.getD j default).kids)) (countP ot) (countP nt)).2)/\Tu (fun k=>Y.ownBlock=some k\/O.ownBlock=some k) w w':=by
 have G:∀{ts:List Tree} (b:e7 ts) (i:Nat),i<ts.length->(bX (ts.getD i default).kids).length<=500000:=fun{ts} b i ab=>by rw[bb,aE ab];exact b.names _ (aK ab)
 have aB:=b1.len;have l2:=b2.len;have tm:∀{W},Below w.heap.size w W->∀{mr:List Nat} {ts:List Tree},iz w mr ts->iz W mr ts:=fun b _ _ m=>m.tu ((Tu.refl (fun _=>False) w).below b) fun _ _ e=>e;refine wm h w x.I ao Y O J new ax on ap (by omega) (by omega) 55 53 53 _ _ _ (fun _ _=>by kernel_rfl) (fun _ _=>by kernel_rfl) (fun _ _=>by kernel_rfl) (fun W=>Below w.heap.size w W) (aD _ _) (fun _ _ a b=>a.trans b) _ _ _ (fun i j ab hj=>⟨JM (G b1 i (by omega)) (G b2 j (by omega)) ?_,fun W b=> ?_⟩) (fun i ab=>⟨?_,fun W b=> ?_⟩) (fun i ab=>⟨?_,fun W b=> ?_⟩);·exact JK _ _ (JI _)
 ·exact FX (x.below b) K aj (tm b M) (tm b M') i j (by omega) (by omega) (b5 (G b1 i (by omega)) (by omega)) (b5 (G b2 j (by omega)) (by omega))
 ·have:=G b1 i (by omega);unfold countP;omega
 ·exact yy (x.I.below b) K (tm b M) (ak.below b) i (by omega) (b5 (G b1 i (by omega)) (by omega))
 ·have:=G b2 i (by omega);unfold countP;omega
 ·exact yy (x.I.below b) aj (tm b M') (am.below b) i (by omega) (b5 (G b2 i (by omega)) (by omega))
theorem bH.iA(q:bH h w B xb so sn budget V s){w1:World}(om nm:List Int)(G:om.length=s.om.length)(l2:nm.length=s.nm.length)(J:Ow w1 h B 3 1 (V .om) s.om.length (aV om))(O:Ow w1 h B 3 1 (V .nm) s.nm.length (aV nm))(t:Tu (fun k=>(V .om).ownBlock=some k\/(V .nm).ownBlock=some k) w w1):bH h w1 B xb so sn budget V {s with om:=om,nm:=nm}/\Tu (e4 V) w w1:=by
 refine⟨q.yK (fun k=>k= .om\/k= .nm) (t.mono fun b e=> ?_) (fun k e=> ?_) (fun k e=> ?_) rfl rfl rfl rfl rfl,t.mono fun b e=> ?_⟩
 ·rcases e with e|e;·exact⟨.om,.inl rfl,e⟩
  ·exact⟨.nm,.inr rfl,e⟩
 ·rcases e with rfl|rfl;·simp only[dD,dE,cf,ch,G];exact J
  ·simp only[dD,dE,cf,ch,l2];exact O
 ·cases k with
  |om=>exact absurd (.inl rfl) e
  |nm=>exact absurd (.inr rfl) e
  |_=>exact⟨rfl,rfl⟩
 ·rcases e with e|e;·exact⟨.om,e⟩
  ·exact⟨.nm,e⟩
theorem HA(q:bH h w B xb so sn budget V s)(K:cC h so ot mr (V .om) (V .oa) kv)(bO:cC h sn nt nr (V .nm) (V .na) dR)(M:iz w mr ot)(M':iz w nr nt)(c8:∀i,i<ot.length->¬e4 V (mr.getD i 0))(c9:∀i,i<nt.length->¬e4 V (nr.getD i 0))(sh:cw s ot nt)(b1:e7 ot)(b2:e7 nt)(cq:B<=w.heap.size):Calls ai 25 #[az (some ⟨xb,0,none⟩)] w fun e w'=>e= .returned (bD #[])/\bH h w' B xb so sn budget V (l5 ot nt s)/\Tu (e4 V) w w':=by
 have X:=aa q.ci;have bm:=X.out.c0;have bq:=X.out.c1;have aY:=X.out.lt;obtain⟨tv,dk,cZ,aN,-,-,-⟩:=K.box;obtain⟨dn,dm,c6,aO,-,-,-⟩:=bO.box;have aP:w.cell? ⟨so,3,none⟩=some (V .om):=cu X.out.I aN 3;have aQ:w.cell? ⟨sn,3,none⟩=some (V .nm):=cu X.out.I aO 3;have zs:=cD (X.out.I _ _ aN);have bv:=cD (X.out.I _ _ aO);have ab:=aa (q.rows.own .om);have aj:=aa (q.rows.own .nm);have aZ:=aa (q.rows.apart .om .nm (by simp));obtain⟨bZ,c1,a5⟩:=ab.out.shape;obtain⟨b0,c2,a8⟩:=aj.out.shape;simp only[cf]at a5 a8;have aJ:=aa a5;have am:=aa a8;simp only[cf,ch,dD,dE]at ab aj;rw[a5]at aP ab aZ;rw[a8]at aQ aj aZ
 have cn:Hid (∀k,((ag bZ s.om.length c1).ownBlock=some k\/(ag b0 s.nm.length c2).ownBlock=some k)->k<w.heap.size/\e4 V k):=fun k e=>by
  rcases e with e|e;·exact⟨(ab.out.lt k e).2,.om,by rw[a5];exact e⟩
  ·exact⟨(aj.out.lt k e).2,.nm,by rw[a8];exact e⟩
 have a1:=aa K;have a2:=aa bO;have Q:=aa q;have bC:=aa M;have bE:=aa M';have bG:=aa sh;have cU:=aa sh.iA.1;have bT:=aa sh.iA.2.1;have dg:=b1.len;have di:=b2.len;have cK:=aa b1;have cM:=aa b2;have dp:=aa q.rG;clear q K bO aN aO M M' a5 a8 sh b1 b2;have MM:Hid (iC ot nt s={s with om:=(eX (dh s.om s.nm (eC ot) (eC nt)).1 (dh s.om s.nm (eC ot) (eC nt)).2 (fun i j=>iT (bX (ot.getD i default).kids) (bX (nt.getD j default).kids)) (countP ot) (countP nt)).1,nm:=(eX (dh s.om s.nm (eC ot) (eC nt)).1 (dh s.om s.nm (eC ot) (eC nt)).2 (fun i j=>iT (bX (ot.getD i default).kids) (bX (nt.getD j default).kids)) (countP ot) (countP nt)).2}):=rfl;have aS:=aa (o2 bG.out.iA (eC ot) (eC nt));generalize ct:dh s.om s.nm (eC ot) (eC nt)=E at*;have cm:=aa ct;clear ct;go_in;go_wp2_with fail
 go_region_held3(fun w'=>w'.cell? ⟨xb,0,none⟩=some (az (some ⟨so,0,none⟩))/\w'.cell? ⟨xb,1,none⟩=some (az (some ⟨sn,0,none⟩))/\w'.cell? ⟨so,3,none⟩=some (ag bZ s.om.length c1)/\w'.cell? ⟨sn,3,none⟩=some (ag b0 s.nm.length c2)) (first|(go_keep;done)|exact⟨bd,k1,k2,k3⟩|exact⟨bm,bq,aP,aQ⟩|exact⟨(G.out.cell aY).trans bm,(G.out.cell aY).trans bq,(G.out.cell zs).trans aP,(G.out.cell bv).trans aQ⟩) (first
  |(go_at_call 49;(with_reducible refine(LB so).mono ?_);rintro e cj ⟨g1,rfl,h1,aB,bg⟩;have ao:=aa h1;(try(have ax:=aa (ax.out.below aB)));have cS:w.heap.size<=g1:=(by first|exact b5 G.out.size bg|exact bg);have G:Hid (Below w.heap.size w cj):=(by first|exact G.out.trans (aB.mono G.out.size)|exact((aD _ _).drew).trans aB);clear h1 aB bg)
  |(go_at_call 49;(with_reducible refine(LB sn).mono ?_);rintro e cl ⟨g2,rfl,h2,aG,l2⟩;have ax:=aa h2;(try(have ao:=aa (ao.out.below aG)));have L2:w.heap.size<=g2:=(by first|exact b5 G.out.size l2|exact l2);have G:Hid (Below w.heap.size w cl):=(by first|exact G.out.trans (aG.mono G.out.size)|exact((aD _ _).drew).trans aG);clear h2 aG l2)
  |(go_at_call 51;refine(JL (X.out.I.below G.out) (b5 cq G.out.size) a1.out a2.out ao.out ax.out (ab.out.same G.out) (aj.out.same G.out) aZ.out (fun k e=>by have:=(cn.out k e).1;constructor<;>omega) cU.out bT.out dg di).mono ?_;rintro e ak ⟨rfl,aL,aM,Y⟩;rw[cm.out]at aL aM;rw[<-aJ.out,<-am.out]at Y;rw[<-aJ.out]at aL;rw[<-am.out]at aM;obtain⟨O,Y⟩:=(Q.out.below G.out).iA E.1 E.2 (aS.out.1.trans bG.out.iA.1.symm) (aS.out.2.1.trans bG.out.iA.2.1.symm) aL aM Y;have a3:=aa O;have bJ:=aa (((Tu.refl (e4 V) w).below G.out).trans Y);have bd:=O.ci.c0;have k1:=O.ci.c1;obtain⟨cg,cd,b9,a9,-,-,-⟩:=a1.out.box;obtain⟨ci,ce,cc,ba,-,-,-⟩:=a2.out.box;have k2:=cu O.I a9 3;have k3:=cu O.I ba 3;rw[show(#[cg,cd,b9,V .om,V .oa,kv]:Array Value)[3]? =some (V .om)from rfl,aJ.out]at k2;rw[show(#[ci,ce,cc,V .nm,V .na,dR]:Array Value)[3]? =some (V .nm)from rfl,am.out]at k3;clear O Y aL aM a9 ba))
 clear ao ax cS L2 G bd k1 k2 k3;have bL:=aa (rF aS.out (fun i j=>iT (bX (ot.getD i default).kids) (bX (nt.getD j default).kids)) (countP ot) (countP nt));have X:=aa a3.out.ci;have bm:=X.out.c0;have bq:=X.out.c1;have aY:=X.out.lt;obtain⟨tv,dk,cZ,aN,-,-,-⟩:=a1.out.box;obtain⟨dn,dm,c6,aO,-,-,-⟩:=a2.out.box;have aP:ak.cell? ⟨so,3,none⟩=some (V .om):=cu X.out.I aN 3;have aQ:ak.cell? ⟨sn,3,none⟩=some (V .nm):=cu X.out.I aO 3;rw[aJ.out]at aP;rw[am.out]at aQ;have zs:=cD (X.out.I _ _ aN);have bv:=cD (X.out.I _ _ aO);have ab:=aa (a3.out.rows.own .om);have aj:=aa (a3.out.rows.own .nm);simp only[cf,ch,dD,dE]at ab aj;rw[aJ.out]at ab;rw[am.out]at aj;have bC:=aa (bC.out.tu bJ.out c8);have bE:=aa (bE.out.tu bJ.out c9);have cG:Hid (B<=ak.heap.size):=b5 cq bJ.out.size;have bR:=aa aS.out.1;have bS:=aa aS.out.2.1;clear aN aO;go_wp2_with fail
 go_region_held3(fun w'=>w'.cell? ⟨xb,0,none⟩=some (az (some ⟨so,0,none⟩))/\w'.cell? ⟨xb,1,none⟩=some (az (some ⟨sn,0,none⟩))/\w'.cell? ⟨so,3,none⟩=some (ag bZ s.om.length c1)/\w'.cell? ⟨sn,3,none⟩=some (ag b0 s.nm.length c2)) (first|(go_keep;done)|exact⟨bd,k1,k2,k3⟩|exact⟨(G.out.cell aY).trans bm,(G.out.cell aY).trans bq,(G.out.cell zs).trans aP,(G.out.cell bv).trans aQ⟩) (first
  |(go_at_call 52;(with_reducible refine(yt so).mono ?_);rintro e cj ⟨g1,rfl,h1,aB,bg⟩;have ao:=aa h1;(try(have ax:=aa (ax.out.below aB)));have G:Hid (Below ak.heap.size ak cj):=(by first|exact G.out.trans (aB.mono G.out.size)|exact((aD _ _).drew).trans aB);clear h1 aB bg)
  |(go_at_call 52;(with_reducible refine(yt sn).mono ?_);rintro e cl ⟨g2,rfl,h2,aG,l2⟩;have ax:=aa h2;(try(have ao:=aa (ao.out.below aG)));have G:Hid (Below ak.heap.size ak cl):=(by first|exact G.out.trans (aG.mono G.out.size)|exact((aD _ _).drew).trans aG);clear h2 aG l2)
  |(go_at_call 54;refine(JN (X.out.below G.out) (b5 cG.out G.out.size) a1.out a2.out (bC.out.tu ((Tu.refl (fun _=>False) ak).below G.out) (fun _ _ e=>e)) (bE.out.tu ((Tu.refl (fun _=>False) ak).below G.out) (fun _ _ e=>e)) ao.out ax.out (ab.out.same G.out) (aj.out.same G.out) aZ.out bR.out bS.out cK.out cM.out).mono ?_;rintro e iP ⟨rfl,aL,aM,Y⟩;rw[<-aJ.out,<-am.out]at Y;rw[<-aJ.out]at aL;rw[<-am.out]at aM;obtain⟨O,Y⟩:=(a3.out.below G.out).iA _ _ (bL.out.1.trans bR.out.symm) (bL.out.2.1.trans bS.out.symm) aL aM Y;have co:=b5 G.out.size Y.size;have bV:=aa O;have cX:=aa (bJ.out.trans (((Tu.refl (e4 V) ak).below G.out).trans Y));have bd:=O.ci.c0;have k1:=O.ci.c1;obtain⟨cg,cd,b9,a9,-,-,-⟩:=a1.out.box;obtain⟨ci,ce,cc,ba,-,-,-⟩:=a2.out.box;have k2:=cu O.I a9 3;have k3:=cu O.I ba 3;rw[show(#[cg,cd,b9,V .om,V .oa,kv]:Array Value)[3]? =some (V .om)from rfl,aJ.out]at k2;rw[show(#[ci,ce,cc,V .nm,V .na,dR]:Array Value)[3]? =some (V .nm)from rfl,am.out]at k3;clear O Y aL aM a9 ba))
 all_goals
  clear ao ax G;have aY:=bV.out.ci.lt;have bv:=Nat.lt_of_lt_of_le bv co;have bY:Hid (cw (iC ot nt s) ot nt):=zX bG.out;have Q:=bV;rw[show({({s with om:=E.1,nm:=E.2}:bp)with om:=(eX E.1 E.2 (fun i j=>iT (bX (ot.getD i default).kids) (bX (nt.getD j default).kids)) (countP ot) (countP nt)).1,nm:=(eX E.1 E.2 (fun i j=>iT (bX (ot.getD i default).kids) (bX (nt.getD j default).kids)) (countP ot) (countP nt)).2}:bp)=iC ot nt s from MM.out.symm]at Q;have cB:l5 ot nt s=(aw (iC ot nt s).nm.length).foldl ea (iC ot nt s):=rfl;have cQ:=aa cB;clear cB bV co MM bL aS bR bS cm a3 ab aj bC bE X bm bq aP aQ bd k2 aZ cn;have bB:Hid ((iC ot nt s).nm.length=s.nm.length):=bY.out.iA.2.1.trans bT.out.symm;generalize iC ot nt s=J at*;go_wp2_with fail;go_loopw[70] (fun i wr=>∃(j:Nat),j<=s.nm.length/\i= .int .i64 j/\bH h wr B xb so sn budget V ((aw j).foldl ea J)/\Tu (e4 V) w wr) (fun i _=>s.nm.length-(intOf i).toNat);case atStart=>exact⟨0,Nat.zero_le _,rfl,Q.out,cX.out⟩
  case round=>
   obtain⟨j,dt,rfl,q,t⟩:=hrel;have a4:cw ((aw j).foldl ea J) ot nt/\((aw j).foldl ea J).nm=J.nm:=hX (P:=fun s=>cw s ot nt/\s.nm=J.nm) _ _ ⟨bY.out,rfl⟩ fun s j _ h=>⟨zY h.1 j,(JG s j).trans h.2⟩
   have bN:Hid ((aw (j+1)).foldl ea J=ea ((aw j).foldl ea J) j):=by unfold Hid;rw[List.range_succ,List.foldl_append,List.foldl_cons,List.foldl_nil]
   by_cases hj:j<s.nm.length
   ·have o:=q.rows.own .nm;simp only[cf,ch,dD,dE,a4.2]at o;rw[am.out,bB.out]at o;obtain⟨gm,rfl,-,dC,-,cv,-⟩:=o.cell (by omega)
    have d0:wr.cell? ⟨gm,j,none⟩=some (.int .i64 (ge J.nm j)):=cv j _ (by
     have:j<J.nm.length:=by rw[bB.out];exact hj
     simp[aV,ge,bb,aE this])
    have dv:(0:Int)<=(j:Int):=by omega
    have dw:(j:Int)<(s.nm.length:Int):=by omega
    have cA:ge J.nm j∈J.nm:=by
     have:j<J.nm.length:=by rw[bB.out];exact hj
     simp only[ge,dy,bb,aE this,Option.getD_some];exact aK _
    have cz:=bY.out.iA.2.2.2 _ cA;have aX:j<nt.length:=by rw[<-bT.out];exact hj
    have dA:j<=1000000:=by omega
    have bI:Hid (ea ((aw j).foldl ea J) j=if 0<=ge J.nm j then du ((aw j).foldl ea J) j 0 (ge J.nm j).toNat 0 else(aw j).foldl ea J):=by unfold Hid;rw[JF,a4.2]
    have aT:=aa a4.1;have bz:=aa q;have bA:=aa t;generalize ge J.nm j=x at*;clear q t a4 o cv cA;generalize(aw j).foldl ea J=dr at*;by_cases hx:0<=x
    ·obtain⟨k,rfl⟩:∃k:Nat,x=k:=⟨x.toNat,by omega⟩
     rw[if_pos hx,dy]at bI;have cN:=aa (uB bz.out j 0 k 0 (by rw[aT.out.rl];exact aX) (by rw[aT.out.gZ j aX,Tree.size_eq];omega) (by rw[aT.out.nl];exact aX) (by rw[aT.out.gY j aX,Tree.size_eq];omega) (by rw[aT.out.ol];omega) (by rw[aT.out.mR k (by omega),Tree.size_eq];omega));clear aX cz;go_wp2_with(go_at_call 56;refine cN.out.mono ?_;rintro e dB ⟨rfl,cE,cF⟩;have cV:=aa cE;have cY:=aa (bA.out.trans (cF.mono fun b e=>by rcases e with e|e|e<;>exact⟨_,e⟩));clear cE cF);go_roundw;case rel=>exact⟨j+1,by omega,by go_num,by rw[bN.out,bI.out];exact cV.out,cY.out⟩
     case measure=>simp[intOf];omega
    ·rw[if_neg hx]at bI;clear aX cz;go_wp2_with fail;go_roundw;case rel=>exact⟨j+1,by omega,by go_num,by rw[bN.out,bI.out];exact bz.out,bA.out⟩
     case measure=>simp[intOf];omega
   ·obtain rfl:j=s.nm.length:=by omega
    have bz:=aa q;have bA:=aa t;clear q t a4 bN;go_wp2_with fail;refine bodyPost_end (results_none rfl _ _ _) rfl ?_;rw[cQ.out,bB.out];exact⟨rfl,bz.out,bA.out⟩
end
end Go.Proofs.YtdplggpbgommnaaGreatDoor
