/- A program whose names are different is paired with itself, whatever its leads are: in plain words. -/
import Derived.Test.YtdplggpbgommnaaGreatDoorG23
import Derived.Test.YtdplggpbgommnaaGreatDoorPno
import Derived.Test.YtdplggpbgommnaaGreatDoorG25
open Go.Addr.mk renaming injEq→cx
open Go.IntKind renaming i64→ae
open Go.Value renaming int→af,slice→ag,string→ah
open Go.Value.slice renaming injEq→bU
open Int renaming toNat_natCast→dy
open List renaming findIdx?_eq_none_iff→Cb,findIdx?_eq_some_iff_getElem→oB,foldl_append→dH,foldl_cons→dK,getD_eq_getElem?_getD→bb,getElem?_eq_getElem→aE,getElem?_set_ne→B3,getElem_append_left→mf,getElem_map→eU,getElem_mem→aK,length_map→dL,map_append→gO,map_cons→cR,mem_append→ev,mem_cons_of_mem→cW,mem_cons_self→eu,mem_iff_getElem→ij,range_succ→dx,range→aw,replicate→aA,set_append_right→ma
open List.Pairwise renaming imp→pk,nil→B1
open Nat renaming le_refl→an,le_succ→my
open Option renaming getD_some→fs
open Option.some renaming injEq→aC
open Prod.mk renaming injEq→jg
namespace Go.Proofs.YtdplggpbgommnaaGreatDoor
open Go.RowKit
theorem zp{x:Int}(h: -9223372036854775808≤x)(h2:x≤9223372036854775807):bS x=x:=by unfold bS wrap64;omega
theorem uR{K α:Type}[DecidableEq K]{l:List (K×α)}{p:K}{k:Nat}(h:bm l p=some k):∃A:k<l.length,(l[k]).1=p∧∀j (hj:j<k),(l[j]'(by omega)).1≠p:=by unfold bm at h;rw[oB]at h;obtain⟨A,h1,h2⟩:=h;exact⟨A,by simpa using h1,fun j hj=>by simpa using h2 j hj⟩
theorem uS{K α:Type}[DecidableEq K]{l:List (K×α)}{p:K}(h:bm l p=none):∀q∈l,q.1≠p:=by unfold bm at h;rw[Cb]at h;exact fun q A=>by simpa using h q A
theorem rR{K α:Type}[DecidableEq K]{l:List (K×α)}{p:K}{k:Nat}(A:k<l.length)(h1:(l[k]).1=p)(h2:∀j (hj:j<k),(l[j]'(by omega)).1≠p):bm l p=some k:=by unfold bm;rw[oB];exact⟨A,by simpa using h1,fun j hj=>by simpa using h2 j hj⟩
theorem zq{K α:Type}[DecidableEq K]{l:List (K×α)}{p:K}(h:∀q∈l,q.1≠p):bm l p=none:=by unfold bm;rw[Cb];exact fun q A=>by simpa using h q A
theorem o5{K α:Type}[DecidableEq K](l:List (K×α))(p q:K)(v:α):aT (aY l p v) q=if q=p then some v else aT l q:=by
 unfold aY;cases hp:bm l p with
 |none=>
  have ac:=uS hp;by_cases e:q=p
  ·subst e;rw[if_pos rfl];have:bm (l++[(q,v)]) q=some l.length:=rR (by simp) (by simp) fun j hj=>by rw[mf hj];exact ac _ (aK hj)
   simp[aT,this]
  ·rw[if_neg e];cases hq:bm l q with
   |none=>
    have O:=uS hq
    have:bm (l++[(p,v)]) q=none:=zq fun x A=>by
     rcases ev.1 A with A|A;·exact O x A
     ·simp at A;subst A;exact fun M=>e M.symm
    simp[aT,this,hq]
   |some k=>
    obtain⟨E,h1,h2⟩:=uR hq;have:bm (l++[(p,v)]) q=some k:=rR (by simp;omega) (by rw[mf E];exact h1) fun j hj=>by rw[mf (by omega)];exact h2 j hj
    simp[aT,this,hq,List.getElem?_append_left E]
 |some k=>
  obtain⟨E,h1,h2⟩:=uR hp
  have G:∀j (hj:j<(l.set k (p,v)).length),((l.set k (p,v))[j]).1=(l[j]'(by simpa using hj)).1:=fun j hj=>by
   rw[List.getElem_set];split;·rename_i e;subst e;exact h1.symm
   ·rfl
  by_cases e:q=p
  ·subst e;rw[if_pos rfl];have:bm (l.set k (q,v)) q=some k:=rR (by simpa using E) (by simp) fun j hj=>by rw[G];exact h2 j hj
   simp[aT,this,E]
  ·rw[if_neg e];cases hq:bm l q with
   |none=>
    have O:=uS hq;have:bm (l.set k (p,v)) q=none:=zq fun x A=>by obtain⟨j,hj,rfl⟩:=ij.1 A;rw[G];exact O _ (aK _)
    simp[aT,this,hq]
   |some i=>
    obtain⟨ab,g1,Y⟩:=uR hq;have ad:k≠i:=fun M=>e (by subst M;rw[←g1,h1]);have:bm (l.set k (p,v)) q=some i:=rR (by simpa using ab) (by rw[G];exact g1) fun j hj=>by rw[G];exact Y j hj
    simp[aT,this,hq,B3 ad]
def cd(n:Nat)(P:Nat→Bool):List Int:=(aw n).map fun i=>if P i then(i:Int)else-1
theorem qh(n:Nat)(P:Nat→Bool):(cd n P).length=n:=by simp[cd]
theorem zr(n:Nat)(P:Nat→Bool)(i:Nat)(A:i<n):(cd n P).getD i 0=if P i then(i:Int)else-1:=by simp[cd,bb,A]
theorem mX{α:Type}(f:α→Nat→α)(A:Nat→α→Prop)(n:Nat)(a:α)(G:A 0 a)(E:∀j s,j<n→A j s→A (j+1) (f s j)):A n ((aw n).foldl f a):=by
 induction n with
 |zero=>exact G
 |succ n M=>rw[dx,dH];exact E n _ (by omega) (M fun j s hj=>E j s (by omega))
section
variable {K:Type} [DecidableEq K]
theorem Gw(n:Nat)(A:Nat→Option K)(k:Nat→K)(ab:∀i,i<n→A i=some (k i))(M:∀i j,i<n→j<n→k i=k j→i=j):(∀i,i<n→aT (iK (aA n (-1)) A n) (k i)=some [i])∧∀q,(∀i,i<n→k i≠q)→aT (iK (aA n (-1)) A n) q=none:=by
 unfold iK;have:=mX (fw (aA n (-1)) A) (fun m r=>(∀i,i<m→aT r (k i)=some [i])∧∀q,(∀i,i<m→k i≠q)→aT r q=none) n [] ⟨fun i E=>by omega,fun q _=>rfl⟩ ?_;·exact this
 ·intro j r hj ⟨h1,h2⟩;unfold fw;rw[ab j hj];have O:(aA n (-1:Int)).getD j 0<0:=by simp[bb,hj]
  simp only[O,if_true];rw[h2 (k j) fun i E e=>by have:=M i j (by omega) hj e;omega];refine⟨fun i E=> ?_,fun q G=> ?_⟩
  ·rw[o5];by_cases e:i=j;·subst e;simp
   ·rw[if_neg fun Y=>e (M i j (by omega) hj Y)];exact h1 i (by omega)
  ·rw[o5,if_neg fun e=>G j (by omega) e.symm];exact h2 q fun i E=>G i (by omega)
theorem zt(n:Nat)(Y ad:Nat→Option K)(k O:Nat→K)(P:Nat→Bool)(aG:∀i,i<n→Y i=some (k i))(aJ:∀i,i<n→ad i=some (O i))(ak:∀i j,i<n→j<n→k i=k j→i=j)(aB:∀i,i<n→P i=true→O i=k i)(ax:∀i,i<n→P i=false→∀j,j<n→k j≠O i):dh (aA n (-1)) (aA n (-1)) Y ad=(cd n P,cd n P):=by
 obtain⟨g1,ao⟩:=Gw n Y k aG ak;unfold dh;rw[List.length_replicate];have:=mX (gx ad) (fun m s=>(∀i,m≤i→i<n→aT s.1 (k i)=some [i])∧(∀q,(∀i,i<n→k i≠q)→aT s.1 q=none)∧s.2.1=cd m P++aA (n-m) (-1)∧s.2.2=cd m P++aA (n-m) (-1)) n (iK (aA n (-1)) Y n,aA n (-1),aA n (-1)) ⟨fun i _ ac=>g1 i ac,ao,by simp[cd],by simp[cd]⟩ ?_
 ·have h1:=this.2.2.1;have h2:=this.2.2.2;simp only[Nat.sub_self,List.replicate_zero,List.append_nil]at h1 h2;exact Prod.ext h1 h2
 ·rintro j ⟨r,o,m⟩ hj ⟨h1,h2,ab,A⟩;simp only at h1 h2 ab A;have am:m.getD j 0= -1:=by rw[A,bb,List.getElem?_append_right (by simp[cd])];simp[cd,show 0<n-j by omega]
  have M:cd (j+1) P=cd j P++[if P j then(j:Int)else-1]:=by simp[cd,dx]
  have G:aA (n-j) (-1:Int)= -1::aA (n-(j+1)) (-1):=by rw[show n-j=(n-(j+1))+1 by omega,List.replicate_succ]
  unfold gx;rw[aJ j hj];simp only[am];rw[if_neg (by omega)];cases hPj:P j with
  |true=>
   rw[aB j hj hPj,h1 j (an _) hj];simp only[fs];refine⟨fun i ac E=> ?_,fun q aj=> ?_,?_,?_⟩;·rw[o5,if_neg fun e=>by have:=ak i j E hj e;omega];exact h1 i (by omega) E
   ·rw[o5,if_neg fun e=>aj j hj e.symm];exact h2 q aj
   ·rw[ab,M,G,hPj,ma _ _ (by simp[cd])];simp[cd]
   ·rw[A,M,G,hPj,ma _ _ (by simp[cd])];simp[cd]
  |false=>
   rw[h2 (O j) (ax j hj hPj)];simp only[Option.getD_none];refine⟨fun i ac E=>h1 i (by omega) E,h2,?_,?_⟩;·rw[ab,M,G,hPj];simp
   ·rw[A,M,G,hPj];simp
theorem Gx(n:Nat)(A G:List Int)(E Y:Nat→Option K)(ad:A.length=n)(ac:G.length=n)(h:∀i,i<n→A.getD i 0<0→∀j,j<n→G.getD j 0<0→∀a b,E i=some a→Y j=some b→a≠b):dh A G E Y=(A,G):=by
 have g:∀q,(∀i,i<n→A.getD i 0<0→E i≠some q)→aT (iK A E n) q=none:=by
  unfold iK;have:=mX (fw A E) (fun m r=>∀q,(∀i,i<m→A.getD i 0<0→E i≠some q)→aT r q=none) n [] (fun q _=>rfl) ?_;·exact this
  ·intro j r hj h1 q O;unfold fw;cases hk:E j with
   |none=>exact h1 q fun i M=>O i (by omega)
   |some a=>
    simp only;split;·rename_i ab;rw[o5,if_neg fun e=>O j (by omega) ab (by rw[hk,e])];exact h1 q fun i M=>O i (by omega)
    ·exact h1 q fun i M=>O i (by omega)
 unfold dh;rw[ad,ac];have:=mX (gx Y) (fun _ s=>s=(iK A E n,A,G)) n (iK A E n,A,G) rfl ?_;·rw[this]
 ·rintro j s hj rfl;unfold gx;cases hk:Y j with
  |none=>rfl
  |some b=>
   simp only;split;·rfl
   ·rename_i ab;rw[g b fun i M h1 h2=>h i M h1 j hj (by omega) b b h2 hk rfl];rfl
end
theorem Gy{l:List Int}(h:∀i,i<l.length→0≤l.getD i 0):dp l=[]:=by unfold dp;rw[List.filter_eq_nil_iff];intro i A;have:=h i (List.mem_range.1 A);simp only[decide_eq_true_eq];omega
theorem zu{E A:List Int}(h1:dp E=[])(h2:dp A=[])(cost:Nat→Nat→Int)(drop add:Nat→Int):eX E A cost drop add=(E,A):=by unfold eX;simp[h1,h2,nC]
theorem o6(n i:Nat)(A:i<n):(cd n fun _=>true).getD i 0=i:=by rw[zr n _ i A];rfl
theorem rS(n:Nat):dp (cd n fun _=>true)=[]:=Gy fun i A=>by rw[qh]at A;rw[o6 n i A];omega
structure e5(ts:List Tree)(D:Nat→Nat→Prop)(s:bp):Prop where
 rl:s.rs.length=ts.length
 nl:s.nt.length=ts.length
 gZ:∀i,i<ts.length→(s.rs.getD i []).length=(ts.getD i default).size
 gY:∀i,i<ts.length→(s.nt.getD i []).length=(ts.getD i default).size
 rs:∀m j,m<ts.length→j<(ts.getD m default).size→D m j→(s.rs.getD m []).getD j (-1,0)=((m:Int),(j:Int))
 nt:∀m j,m<ts.length→j<(ts.getD m default).size→D m j→(s.nt.getD m []).getD j false=true
theorem zw{α:Type}(l:List (List α))(i j m k:Nat)(x d:α)(E:i<l.length)(hj:j<(l.getD i []).length):((eM l i j x).getD m []).getD k d=if m=i∧k=j then x else(l.getD m []).getD k d:=by
 by_cases h:m=i
 ·subst h;rw[p7 l m j x E];by_cases A:k=j;·subst A;rw[if_pos ⟨rfl,rfl⟩,bb,List.getElem?_set_self hj];rfl
  ·rw[if_neg fun e=>A e.2,bb,B3 fun e=>A e.symm,←bb]
 ·rw[if_neg fun e=>h e.1,p8 l i j m x h]
theorem e5.o7{ts:List Tree}{D E:Nat→Nat→Prop}{s:bp}(h:e5 ts D s)(G:∀m j,E m j→D m j):e5 ts E s:=
 ⟨h.rl,h.nl,h.gZ,h.gY,fun m j h1 h2 A=>h.rs m j h1 h2 (G m j A),fun m j h1 h2 A=>h.nt m j h1 h2 (G m j A)⟩
theorem e5.node{ts:List Tree}{D:Nat→Nat→Prop}{s:bp}(h:e5 ts D s)(m j:Nat)(A:m<ts.length)(hj:j<(ts.getD m default).size):e5 ts (fun a b=>D a b∨a=m∧b=j) (du s m j m j):=by
 have ac:m<s.rs.length:=by rw[h.rl];exact A
 have ad:j<(s.rs.getD m []).length:=by rw[h.gZ m A];exact hj
 have Y:m<s.nt.length:=by rw[h.nl];exact A
 have ab:j<(s.nt.getD m []).length:=by rw[h.gY m A];exact hj
 refine⟨by simp[du,eM,h.rl],by simp[du,eM,h.nl],fun i O=>by simp only[du,lW];exact h.gZ i O,fun i O=>by simp only[du,lW];exact h.gY i O,fun a b E G M=> ?_,fun a b E G M=> ?_⟩
 ·simp only[du];rw[zw _ _ _ _ _ _ _ ac ad];by_cases e:a=m∧b=j;·rw[if_pos e,e.1,e.2]
  ·rw[if_neg e];exact h.rs a b E G (M.resolve_right e)
 ·simp only[du];rw[zw _ _ _ _ _ _ _ Y ab];by_cases e:a=m∧b=j;·rw[if_pos e]
  ·rw[if_neg e];exact h.nt a b E G (M.resolve_right e)
theorem e5.Gz{ts:List Tree}{D:Nat→Nat→Prop}{s:bp}(h:e5 ts D s)(c b:Int):e5 ts D {s with cost:=c,a7:=b}:=⟨h.rl,h.nl,h.gZ,h.gY,h.rs,h.nt⟩
theorem e5.all{ts:List Tree}{D:Nat→Nat→Prop}{s:bp}(h:e5 ts D s)(m n z:Nat)(O:m<ts.length)(hj:n+z≤(ts.getD m default).size):e5 ts (fun a b=>D a b∨a=m∧n≤b∧b<n+z) (gX m n m n (dT z) s)∧(gX m n m n (dT z) s).oa=s.oa∧(gX m n m n (dT z) s).na=s.na∧(gX m n m n (dT z) s).cost=s.cost∧(gX m n m n (dT z) s).a7=s.a7:=by
 unfold gX dT;rw[List.foldl_map];have:=mX (fun s (p:Nat)=>du s m (n+((p:Int),(p:Int)).2.toNat) m (n+((p:Int),(p:Int)).1.toNat)) (fun k t=>e5 ts (fun a b=>D a b∨a=m∧n≤b∧b<n+k) t∧t.oa=s.oa∧t.na=s.na∧t.cost=s.cost∧t.a7=s.a7) z s ⟨h.o7 fun a b e=>e.elim id fun e=>by omega,rfl,rfl,rfl,rfl⟩ ?_;·exact this
 ·rintro k t Y ⟨h1,h2,E,G,M⟩;have:=h1.node m (n+k) O (by omega);simp only[dy];exact⟨this.o7 fun a b e=>by rcases e with e|e;exact .inl (.inl e);by_cases A:b=n+k;exact .inr ⟨e.1,A⟩;exact .inl (.inr ⟨e.1,e.2.1,by omega⟩),h2,E,G,M⟩
theorem GC{ts:List Tree}{s:bp}(h:e5 ts (fun _ _=>False) s)(M:s.nm=cd ts.length fun _=>true)(ad:∀i,i<ts.length→0<(ts.getD i default).size):e5 ts (fun _ b=>b=0) ((aw s.nm.length).foldl ea s)∧((aw s.nm.length).foldl ea s).oa=s.oa∧((aw s.nm.length).foldl ea s).na=s.na∧((aw s.nm.length).foldl ea s).nm=s.nm∧((aw s.nm.length).foldl ea s).cost=s.cost∧((aw s.nm.length).foldl ea s).a7=s.a7:=by
 have ac:s.nm.length=ts.length:=by rw[M,qh]
 rw[ac];have:=mX ea (fun k t=>e5 ts (fun a b=>a<k∧b=0) t∧t.oa=s.oa∧t.na=s.na∧t.nm=s.nm∧t.cost=s.cost∧t.a7=s.a7) ts.length s ⟨h.o7 fun a b e=>by omega,rfl,rfl,rfl,rfl,rfl⟩ ?_;·refine⟨⟨this.1.rl,this.1.nl,this.1.gZ,this.1.gY,fun m j h1 h2 A=>this.1.rs m j h1 h2 ⟨h1,A⟩,fun m j h1 h2 A=>this.1.nt m j h1 h2 ⟨h1,A⟩⟩,this.2⟩
 ·rintro k t E ⟨h1,h2,A,G,Y,ab⟩;have e:ge t.nm k=(k:Int):=by unfold ge;rw[G,M];simpa using o6 ts.length k E
  unfold ea;rw[e,if_pos (by omega),dy];refine⟨(h1.node k 0 E (ad k E)).o7 fun a b e=> ?_,h2,A,G,Y,ab⟩;by_cases O:a=k;·exact .inr ⟨O,e.2⟩
  ·exact .inl ⟨by omega,e.2⟩
theorem GD{ts:List Tree}{budget:Int}{od nd:List cF}{s:bp}(h:e5 ts (fun _ b=>b=0) s)(aV:nd.length=od.length)(aj:s.oa=cd od.length fun _=>true)(ak:s.na=cd od.length fun _=>true)
  (aG:∀i,i<od.length→(nd.getD i default).J=(od.getD i default).J∧(nd.getD i default).number=(od.getD i default).number∧(od.getD i default).J<ts.length∧(od.getD i default).number+(od.getD i default).t.size≤(ts.getD (od.getD i default).J default).size∧
   (bE (aO (od.getD i default).t) (aO (nd.getD i default).t) budget).aR=dT (od.getD i default).t.size)
  (ax:∀m j,m<ts.length→0<j→j<(ts.getD m default).size→∃i,i<od.length∧(od.getD i default).J=m∧(od.getD i default).number≤j∧j<(od.getD i default).number+(od.getD i default).t.size)
  (c b:Int→Nat→Int) (ao:∀x i,i<od.length→bS (x+(bE (aO (od.getD i default).t) (aO (nd.getD i default).t) budget).cost)=c x i) (am:∀x i,i<od.length→bS (x+(bE (aO (od.getD i default).t) (aO (nd.getD i default).t) budget).a7)=b x i):
  let e:=(aw nd.length).foldl (gF nd) ((aw od.length).foldl (ek budget od nd) s)
  e5 ts (fun _ _=>True) e∧e.cost=(aw od.length).foldl c s.cost∧e.a7=(aw od.length).foldl b s.a7:=by
 have aM:∀n,n≤od.length→e5 ts (fun x y=>y=0∨∃i,i<n∧(od.getD i default).J=x∧(od.getD i default).number≤y∧y<(od.getD i default).number+(od.getD i default).t.size) ((aw n).foldl (ek budget od nd) s)∧((aw n).foldl (ek budget od nd) s).oa=s.oa∧((aw n).foldl (ek budget od nd) s).na=s.na∧((aw n).foldl (ek budget od nd) s).cost=(aw n).foldl c s.cost∧((aw n).foldl (ek budget od nd) s).a7=(aw n).foldl b s.a7:=by
  intro n;induction n with
  |zero=>exact fun _=>⟨h.o7 fun a b e=>e.elim id fun⟨i,Y,_⟩=>by omega,rfl,rfl,rfl,rfl⟩
  |succ n aL=>
   intro aX;obtain⟨h1,h2,G,M,O⟩:=aL (by omega);rw[dx,dH,dH,dH];obtain⟨aN,aP,aQ,aS,aT⟩:=aG n (by omega);generalize(aw n).foldl (ek budget od nd) s=t at*;simp only[dK,List.foldl_nil];have e:ge t.oa n=(n:Int):=by unfold ge;rw[h2,aj];simpa using o6 od.length n (by omega)
   unfold ek;simp only[e];rw[if_neg (by omega),dy,aN,aP,aT];have q:=(h1.Gz (bS (t.cost+(bE (aO (od.getD n default).t) (aO (nd.getD n default).t) budget).cost)) (bS (t.a7+(bE (aO (od.getD n default).t) (aO (nd.getD n default).t) budget).a7))).all _ _ _ aQ aS;refine⟨q.1.o7 fun x y e=> ?_,by rw[q.2.1];exact h2,by rw[q.2.2.1];exact G,by rw[q.2.2.2.1];simp only;rw[ao _ _ (by omega),M],by rw[q.2.2.2.2];simp only;rw[am _ _ (by omega),O]⟩;rcases e with e|⟨i,Y,ab,ac,ad⟩;·exact .inl (.inl e)
   ·by_cases aB:i=n;·subst aB;exact .inr ⟨ab.symm,ac,ad⟩
    ·exact .inl (.inr ⟨i,by omega,ab,ac,ad⟩)
 obtain⟨h1,h2,G,M,O⟩:=aM od.length (an _)
 have left:∀t:bp,t.na=s.na→(aw nd.length).foldl (gF nd) t=t:=by
  intro t aJ;refine mX (gF nd) (fun _ x=>x=t) nd.length t rfl ?_;rintro j x hj rfl;unfold gF;have e:ge x.na j=(j:Int):=by unfold ge;rw[aJ,ak];simpa using o6 od.length j (by omega)
  rw[e,if_neg (by omega)]
 rw[left _ G];refine⟨⟨h1.rl,h1.nl,h1.gZ,h1.gY,fun m j A E _=>h1.rs m j A E ?_,fun m j A E _=>h1.nt m j A E ?_⟩,M,O⟩
 all_goals
  rcases Nat.eq_zero_or_pos j with e|e;·exact .inl e
  ·obtain⟨i,Y,q⟩:=ax m j A e E;exact .inr ⟨i,Y,q⟩
section
variable {ck:Int→ByteArray→List Nat→ByteArray}
theorem GF{ts:List Tree}{s:bp}{od nd:List cF}(h:e5 ts (fun _ _=>True) s)(G:∀kn,∀x∈(dk ck nd kn).1,x.J<ts.length∧0<x.size∧1≤x.number∧x.number+x.size≤(ts.getD x.J default).size):lc ck od nd s=s:=by
 unfold lc;simp only
 have Y:∀(l:List bq) (g:List (Int×List bq)),(∀x∈l,x.J<ts.length∧0<x.size∧1≤x.number∧x.number+x.size≤(ts.getD x.J default).size)→l.foldl e3 (g,s)=(g,s):=by
  intro l;induction l with
  |nil=>intro g _;rfl
  |cons x l O=>
   intro g E;obtain⟨h1,h2,ac,ad⟩:=E x eu;have M:fX s.nt x=false:=by unfold fX;rw[List.all_eq_false];have ab:=h.gY x.J h1;have A:=h.nt x.J x.number h1 (by omega) trivial;refine⟨true,?_,by simp⟩;generalize s.nt.getD x.J []=l at*;rw[bb,aE (by omega)]at A;rw[ij];refine⟨0,by rw[List.length_take,List.length_drop];omega,?_⟩;simpa using A
   rw[dK];have:e3 (g,s) x=(g,s):=by unfold e3;rw[if_pos (.inr (.inr M))]
   rw[this];exact O g fun y hy=>E y (cW _ hy)
 rw[Y _ _ (G _)]
end
mutual
def Tree.bare:Tree→Tree| .node k s _ ks=> .node k s [] (aN ks)
def aN:List Tree→List Tree
 |[]=>[]
 |t::ts=>t.bare::aN ts
end
theorem iY(ts:List Tree):aN ts=ts.map Tree.bare:=by
 induction ts with
 |nil=>rw[aN];rfl
 |cons a l A=>rw[aN,A];rfl
theorem o8(t:Tree):t.bare.kind=t.kind:=by cases t;rw[Tree.bare];rfl
theorem o9(t:Tree):t.bare.text=t.text:=by cases t;rw[Tree.bare];rfl
theorem rT(t:Tree):t.bare.kids=aN t.kids:=by cases t;rw[Tree.bare];rfl
mutual
theorem l3:∀t:Tree,t.bare.size=t.size
 | .node k s l A=>by rw[Tree.bare,Tree.size,Tree.size,uT A]
theorem uT:∀ts:List Tree,ax (aN ts)=ax ts
 |[]=>by rw[aN]
 |t::ts=>by rw[aN,ax,ax,l3 t,uT ts]
end
theorem zx(m:Nat):∀(n:Nat) (A:List Tree),dt m n (aN A)=(dt m n A).map fun d=>⟨d.J,d.number,d.t.bare⟩
 |_,[]=>by rw[aN];rfl
 |n,t::ts=>by rw[aN,dt,dt,cR,l3,zx m]
theorem zy:∀(m:Nat) (ts:List Tree),aj m (aN ts)=(aj m ts).map fun d=>⟨d.J,d.number,d.t.bare⟩
 |_,[]=>by rw[aN];rfl
 |m,t::ts=>by rw[aN,aj,aj,gO,rT,zx,zy (m+1) ts]
def rU(ts:List Tree):Prop:=(ts.map Tree.text).Nodup∧∀t∈ts,(t.kids.map Tree.text).Nodup
theorem GG(m n:Nat)(A:List Tree):(dt m n A).map (fun d=>d.t.text)=A.map Tree.text:=by
 induction A generalizing n with
 |nil=>rfl
 |cons a l E=>rw[dt,cR,E];rfl
theorem zz:∀(ts:List Tree) (m:Nat),(∀t∈ts,(t.kids.map Tree.text).Nodup)→(aj m ts).Pairwise fun d e=>d.J=e.J→d.t.text≠e.t.text
 |[],m,_=>by rw[aj];exact B1
 |t::ts,m,h=>by
  rw[aj,List.pairwise_append];refine⟨?_,zz ts (m+1) fun u G=>h u (cW _ G),fun a A b E e=> ?_⟩;·have:=h t eu;rw[←GG m 1,List.Nodup,List.pairwise_map]at this;exact pk (S:=fun(d e:cF)=>d.J=e.J→d.t.text≠e.t.text) (fun h _=>h) this
  ·have h1:=(rM t.kids 1 a A).1;have h2:=(mT ts (m+1) b E).1;omega
theorem GH{ts:List Tree}(h:∀t∈ts,(t.kids.map Tree.text).Nodup)(i j:Nat)(A:i<(aj 0 ts).length)(hj:j<(aj 0 ts).length)(h1:((aj 0 ts).getD i default).J=((aj 0 ts).getD j default).J)(h2:((aj 0 ts).getD i default).t.text=((aj 0 ts).getD j default).t.text):i=j:=by
 have:=zz ts 0 h;rw[List.pairwise_iff_getElem]at this;simp only[bb,aE A,aE hj,fs]at h1 h2;rcases Nat.lt_trichotomy i j with e|e|e;·exact absurd h2 (this i j A hj e h1)
 ·exact e
 ·exact absurd h2.symm (this j i hj A e h1.symm)
theorem zA(m:Nat):∀(A:List Tree) (n j:Nat),n≤j→j<n+ax A→∃d∈dt m n A,d.number≤j∧j<d.number+d.t.size
 |[],n,j,h1,h2=>by rw[ax]at h2;omega
 |t::ts,n,j,h1,h2=>by
  rw[gR]at h2;rw[dt];by_cases e:j<n+t.size;·exact⟨_,eu,h1,e⟩
  ·obtain⟨d,E,q⟩:=zA m ts (n+t.size) j (by omega) (by omega);exact⟨d,cW _ E,q⟩
theorem zB:∀(ts:List Tree) (k m j:Nat),m<ts.length→0<j→j<(ts.getD m default).size→∃d∈aj k ts,d.J=k+m∧d.number≤j∧j<d.number+d.t.size
 |[],k,m,j,E,_,_=>by simp at E
 |t::ts,k,m,j,E,G,hj=>by
  rw[aj];cases m with
  |zero=>simp only[List.getD_cons_zero]at hj;have:=t.size_eq;obtain⟨d,A,q⟩:=zA k t.kids 1 j (by omega) (by omega);exact⟨d,List.mem_append_left _ A,(rM t.kids 1 d A).1,q⟩
  |succ m=>simp only[List.getD_cons_succ]at hj;obtain⟨d,A,h1,q⟩:=zB ts (k+1) m j (by simpa using E) G hj;exact⟨d,List.mem_append_right _ A,by omega,q⟩
def cN(ot nt:List Tree):bp:=⟨aA ot.length (-1),aA nt.length (-1),aA (aj 0 ot).length (-1),aA (aj 0 nt).length (-1),ot.map fun t=>aA t.size false,nt.map fun t=>aA t.size false,nt.map fun t=>aA t.size (-1,0),0,0⟩
def eD(ck:Int→ByteArray→List Nat→ByteArray)(budget:Int)(ot nt:List Tree):bp:=
 lc ck (aj 0 ot) (aj 0 nt) (kw budget ot nt (l4 budget ot nt (l5 ot nt (cN ot nt))))
theorem getD_at{α:Type}{l:List α}{d:α}{i:Nat}(A:i<l.length):l.getD i d=l[i]:=by rw[bb,aE A];rfl
theorem GI(ot ts:List Tree)(D:Nat→Nat→Prop)(A:∀a b,¬D a b)(M:ts.length=ot.length)(nt:List Tree)(G:nt.length=ts.length)(hz:∀i,i<ts.length→(nt.getD i default).size=(ts.getD i default).size):e5 ts D (cN ot nt):=by
 refine⟨by simp[cN,G],by simp[cN,G],fun i E=> ?_,fun i E=> ?_,fun m j _ _ h=>(A _ _ h).elim,fun m j _ _ h=>(A _ _ h).elim⟩
 all_goals
  rw[←hz i E];simp[cN,bb,List.getElem?_map,aE (show i<nt.length by omega)]
theorem GJ{ts E:List Tree}(Y:(ts.map Tree.text).Nodup)(M:E.map Tree.text=ts.map Tree.text):iC ts E (cN ts E)={cN ts E with om:=cd ts.length fun _=>true,nm:=cd ts.length fun _=>true}:=by
 have O:E.length=ts.length:=by have:=congrArg List.length M;simpa using this
 have G:∀(l:List Tree) i,i<l.length→(l.getD i default).text=(l.map Tree.text).getD i ⟨#[]⟩:=fun l i A=>by rw[getD_at A,getD_at (by simpa using A),eU]
 unfold iC;simp only[cN];rw[O];rw[zt ts.length (eC ts) (eC E) (fun i=>(0,0,(ts.getD i default).text)) (fun i=>(0,0,(ts.getD i default).text)) (fun _=>true) (fun i _=>rfl) (fun i A=>by unfold eC;rw[G E i (by omega),G ts i A,M]) (fun i j A hj e=> ?_) (fun _ _ _=>rfl) (fun _ _ h=>by cases h)];·rw[zu (rS _) (rS _)]
 ·simp only[jg,true_and]at e;rw[G ts i A,G ts j hj,getD_at (by simpa using A),getD_at (by simpa using hj)]at e;exact(List.getElem_inj Y).1 e
section
variable {ck:Int→ByteArray→List Nat→ByteArray}
theorem GK{ts:List Tree}(ax:rU ts)(budget:Int)(ak:∀d∈aj 0 ts,(bE (aO d.t) (aO d.t.bare) budget).aR=dT d.t.size∧(bE (aO d.t) (aO d.t.bare) budget).cost=0∧(bE (aO d.t) (aO d.t.bare) budget).a7=0)(aZ:∀kn,∀x∈(dk ck (aj 0 (aN ts)) kn).1,x.J<(aN ts).length∧0<x.size∧1≤x.number∧x.number+x.size≤((aN ts).getD x.J default).size):e5 ts (fun _ _=>True) (eD ck budget ts (aN ts))∧(eD ck budget ts (aN ts)).cost=0∧(eD ck budget ts (aN ts)).a7=0:=by
 have ao:(aN ts).length=ts.length:=by rw[iY,dL]
 have hz:∀i,i<ts.length→((aN ts).getD i default).size=(ts.getD i default).size:=fun i A=>by rw[getD_at (by omega),getD_at A];simp only[iY,eU,l3]
 have aY:(aN ts).map Tree.text=ts.map Tree.text:=by rw[iY,List.map_map];exact List.map_congr_left fun t _=>o9 t
 have ab:=zy 0 ts;have am:(aj 0 (aN ts)).length=(aj 0 ts).length:=by rw[ab,dL]
 have O:∀i,i<(aj 0 ts).length→(aj 0 (aN ts)).getD i default=⟨((aj 0 ts).getD i default).J,((aj 0 ts).getD i default).number,((aj 0 ts).getD i default).t.bare⟩:=fun i A=>by rw[getD_at (by omega),getD_at A];simp only[ab,eU]
 have Y:∀i,i<(aj 0 ts).length→(aj 0 ts).getD i default∈aj 0 ts:=fun i A=>by rw[getD_at A];exact aK A
 have ac:∀i,i<(aj 0 ts).length→((aj 0 ts).getD i default).J<ts.length∧((aj 0 ts).getD i default).number+((aj 0 ts).getD i default).t.size≤(ts.getD ((aj 0 ts).getD i default).J default).size:=fun i A=>by have:=mT ts 0 _ (Y i A);rw[Nat.sub_zero]at this;exact⟨by omega,this.2.2.2.1⟩
 have ad:iC ts (aN ts) (cN ts (aN ts))=_:=GJ ax.1 aY;have E:=GC (ts:=ts) (s:=iC ts (aN ts) (cN ts (aN ts))) (by rw[ad];have:=GI ts ts (fun _ _=>False) (fun _ _ h=>h) rfl (aN ts) ao hz;exact⟨this.rl,this.nl,this.gZ,this.gY,this.rs,this.nt⟩) (by rw[ad]) (fun i A=>by have:=(ts.getD i default).size_eq;omega)
 have aS:l5 ts (aN ts) (cN ts (aN ts))=(aw (iC ts (aN ts) (cN ts (aN ts))).nm.length).foldl ea (iC ts (aN ts) (cN ts (aN ts))):=rfl;rw[←aS]at E;rw[ad]at E;obtain⟨E,aB,aG,aJ,aL,aM⟩:=E;unfold eD;generalize l5 ts (aN ts) (cN ts (aN ts))=G at*;simp only[cN]at aB aG aJ aL aM
 have aT:l4 budget ts (aN ts) G={G with oa:=cd (aj 0 ts).length fun _=>true,na:=cd (aj 0 ts).length fun _=>true}:=by
  unfold l4;rw[aB,aG,am];simp only;rw[zt (aj 0 ts).length (la (aj 0 ts)) (km (aj 0 (aN ts)) G.nm) (fun i=>(((aj 0 ts).getD i default).J,((aj 0 ts).getD i default).t.kind,((aj 0 ts).getD i default).t.text)) (fun i=>(((aj 0 ts).getD i default).J,((aj 0 ts).getD i default).t.kind,((aj 0 ts).getD i default).t.text)) (fun _=>true) (fun i _=>rfl) (fun i A=> ?_) (fun i j A hj e=> ?_) (fun _ _ _=>rfl) (fun _ _ h=>by cases h)];·rw[Gx (aj 0 ts).length _ _ _ _ (qh _ _) (qh _ _) (fun i A h=>by rw[o6 _ i A]at h;omega),zu (rS _) (rS _)]
  ·unfold km;have:ge G.nm ((aj 0 ts).getD i default).J=((aj 0 ts).getD i default).J:=by unfold ge;rw[aJ];simpa using o6 ts.length _ (ac i A).1
   rw[O i A];simp only[this,o8,o9];rw[if_pos (by omega)]
  ·simp only[jg,Int.ofNat_inj]at e;exact GH ax.2 i j A hj e.1 e.2.2
 rw[aT];have M:=GD (ts:=ts) (budget:=budget) (od:=aj 0 ts) (nd:=aj 0 (aN ts)) (s:={G with oa:=cd (aj 0 ts).length fun _=>true,na:=cd (aj 0 ts).length fun _=>true}) ⟨E.rl,E.nl,E.gZ,E.gY,E.rs,E.nt⟩ am rfl rfl (fun i A=>by rw[O i A];exact⟨rfl,rfl,(ac i A).1,(ac i A).2,(ak _ (Y i A)).1⟩) (fun m j h1 h2 aX=>by obtain⟨d,ab,q1,a2⟩:=zB ts 0 m j h1 h2 aX;obtain⟨i,A,rfl⟩:=ij.1 ab;refine⟨i,A,?_⟩;rw[getD_at A];exact⟨by omega,a2⟩) (fun x _=>bS (x+0)) (fun x _=>bS (x+0)) (fun x i A=>by rw[O i A,(ak _ (Y i A)).2.1]) (fun x i A=>by rw[O i A,(ak _ (Y i A)).2.2])
 simp only at M;obtain⟨M,aP,aQ⟩:=M;have aV:kw budget ts (aN ts) {G with oa:=cd (aj 0 ts).length fun _=>true,na:=cd (aj 0 ts).length fun _=>true}=(aw (aj 0 (aN ts)).length).foldl (gF (aj 0 (aN ts))) ((aw (aj 0 ts).length).foldl (ek budget (aj 0 ts) (aj 0 (aN ts))) {G with oa:=cd (aj 0 ts).length fun _=>true,na:=cd (aj 0 ts).length fun _=>true}):=rfl;rw[←aV]at M aP aQ;have z:∀n,(aw n).foldl (fun(x:Int) (_:Nat)=>bS (x+0)) 0=0:=fun n=>mX _ (fun _ x=>x=0) n 0 rfl fun _ x _ h=>by rw[h];exact zp (by omega) (by omega)
 rw[GF M fun kn x a1=>by have:=aZ kn x a1;rw[ao]at this;rw[←hz x.J this.1];exact this]
 exact⟨M,by rw[aP,aL];exact z _,by rw[aQ,aM];exact z _⟩
end
theorem A2{α:Type}(a b c d:α):∀(i:Nat) (l:List α),i+4≤l.length→((((l.set i a).set (i+1) b).set (i+2) c).set (i+3) d).take (i+4)=l.take i++[a,b,c,d]
 |0,A::E::G::M::l,_=>by simp
 |0,[],h=>by simp at h
 |0,[_],h=>by simp at h
 |0,[_,_],h=>by simp at h
 |0,[_,_,_],h=>by simp at h
 |i+1,[],h=>by simp at h
 |i+1,x::l,h=>by have:=A2 a b c d i l (by simp at h;omega);simp only[List.set_cons_succ,Nat.add_right_comm i 1,List.take_succ_cons,List.cons_append];rw[this]
def sr(ts us:List Tree):Prop:=aN us=aN ts∧∀u∈us,u.lb
theorem vh(a b:List Tree):aN (a++b)=aN a++aN b:=by rw[iY,iY,iY,gO]
theorem sr.next{ts us:List Tree}{j:Nat}{u:Tree}(h:sr (ts.take j) us)(hj:j<ts.length)(e:u.bare=ts[j].bare)(E:u.lb):sr (ts.take (j+1)) (us++[u]):=by
 refine⟨?_,fun x A=> ?_⟩;·rw[vh,h.1,List.take_add_one,aE hj,vh];simp[aN,e]
 ·rcases ev.1 A with A|A;·exact h.2 x A
  ·rw[List.mem_singleton.1 A];exact E
structure eE(h:Hp)(w:World)(t:Tree)(cT:Array Value)(bu:Nat)(lv kv:Value)(L:Nat)(h1:Hp)(wr:World)(j:Nat)(ls xs:List Value):Prop where
 st:St w.heap.size h w h1 wr
 tb:Has wr w.heap.size cT
 rb:Has wr (w.heap.size+1) #[af ae 0,ah ⟨#[]⟩,ag none 0 0,ag none 0 0]
 ub:Has wr bu #[af ae t.kind,ah t.text,lv,ag none 0 0]
 rn:h1 (w.heap.size+1)=none
 un:h1 bu=none
 blt:w.heap.size+1<bu
 lo:Ow wr h1 (w.heap.size+2) 9 1 lv L ls
 jY:PcV ls
 ko:Ow wr h1 (w.heap.size+2) 26 4 kv t.kids.length xs
 lu:lv.ownBlock≠some bu
 ku:kv.ownBlock≠some bu
 lk:∀g,lv.ownBlock=some g→kv.ownBlock≠some g
 kids:∃us,us.length=j∧aJ (bg h1) us (xs.take (j*4))∧sr (t.kids.take j) us
structure lx(h:Hp)(w:World)(t:Tree)(cT:Array Value)(bu:Nat)(lv:Value)(L:Nat)(wr:World)(ls:List Value):Prop where
 st:St w.heap.size h w h wr
 tb:Has wr w.heap.size cT
 rb:Has wr (w.heap.size+1) #[af ae 0,ah ⟨#[]⟩,ag none 0 0,ag none 0 0]
 ub:Has wr bu #[af ae t.kind,ah t.text,lv,ag none 0 0]
 un:h bu=none
 blt:w.heap.size+1<bu
 lo:Ow wr h (w.heap.size+2) 9 1 lv L ls
 jY:PcV ls
 lu:lv.ownBlock≠some bu
theorem lx.late{h:Hp}{w w0 E:World}{t:Tree}{cT:Array Value}{lv:Value}{L:Nat}{ls:List Value}(O:St w.heap.size h w h w0)(Y:Has w0 w.heap.size cT)(r0:Has w0 (w.heap.size+1) #[af ae 0,ah ⟨#[]⟩,ag none 0 0,ag none 0 0])(G:Ow E h w0.drew.heap.size 9 1 lv L ls)(M:PcV ls)(A:St w0.drew.heap.size h w0.drew h E):lx h w t cT E.heap.size lv L (E.alloc (.cells #[af ae t.kind,ah t.text,lv,ag none 0 0] 26)) ls:=by have ab:w.heap.size+1<w0.heap.size:=r0.lt;have ac:w0.heap.size≤E.heap.size:=A.below.size;exact⟨(O.drew.call A).alloc _,(Y.drew.below A.below).alloc _,(r0.drew.below A.below).alloc _,Has.new _ _ _,bI A.I _ (an _),by omega,(G.base (by show _≤w0.heap.size;omega)).alloc _,M,fun e=>by have:=(G.lt _ e).2;omega⟩
theorem lx.early{h:Hp}{w w0 Y:World}{t:Tree}{cT:Array Value}{lv:Value}{L:Nat}{ls:List Value}{G:Array Value}{T:TypeId}(ak:G= #[af ae 0,ah ⟨#[]⟩,ag none 0 0,ag none 0 0])(ad:St w.heap.size h w h w0)(ax:Has w0 w.heap.size cT)(r0:Has w0 (w.heap.size+1) #[af ae 0,ah ⟨#[]⟩,ag none 0 0,ag none 0 0])(ac:Ow Y h (w0.drew.alloc (.cells G T)).heap.size 9 1 lv L ls)(am:PcV ls)(O:St (w0.drew.alloc (.cells G T)).heap.size h (w0.drew.alloc (.cells G T)) h Y):lx h w t cT w0.heap.size lv L ((((Y.setCell ⟨w0.heap.size,0,none⟩ (af ae t.kind)).setCell ⟨w0.heap.size,1,none⟩ (ah t.text)).setCell ⟨w0.heap.size,2,none⟩ lv).setCell ⟨w0.heap.size,3,none⟩ (ag none 0 0)) ls:=by
 subst ak;have aG:w.heap.size+1<w0.heap.size:=r0.lt;have ab:(w0.drew.alloc (.cells #[af ae 0,ah ⟨#[]⟩,ag none 0 0,ag none 0 0] T)).heap.size=w0.heap.size+1:=by simp
 have aj:Has Y w0.heap.size #[af ae 0,ah ⟨#[]⟩,ag none 0 0,ag none 0 0]:=(Has.new w0.drew #[af ae 0,ah ⟨#[]⟩,ag none 0 0,ag none 0 0] T).below O.below;have A:h w0.heap.size=none:=bI ad.I _ (an _);have st:=(ad.drew.alloc (.cells #[af ae 0,ah ⟨#[]⟩,ag none 0 0,ag none 0 0] T)).call O;have E:lv.ownBlock≠some w0.heap.size:=fun e=>by have:=(ac.lt _ e).1;rw[ab]at this;omega
 have aB:=(ax.drew.alloc (.cells #[af ae 0,ah ⟨#[]⟩,ag none 0 0,ag none 0 0] T)).below O.below;have ao:=(r0.drew.alloc (.cells #[af ae 0,ah ⟨#[]⟩,ag none 0 0,ag none 0 0] T)).below O.below;have M:w.heap.size≤w0.heap.size:=by omega
 exact⟨(((st.setCell (p:=⟨w0.heap.size,0,none⟩) M A _).setCell (p:=⟨w0.heap.size,1,none⟩) M A _).setCell (p:=⟨w0.heap.size,2,none⟩) M A _).setCell (p:=⟨w0.heap.size,3,none⟩) M A _,(((aB.ne (by omega) _ _).ne (by omega) _ _).ne (by omega) _ _).ne (by omega) _ _,(((ao.ne (by omega) _ _).ne (by omega) _ _).ne (by omega) _ _).ne (by omega) _ _,aj.aM _ _ _ _,A,by omega,
  (((ac.base (by rw[ab];omega)).setCell E _|>.setCell E _).setCell E _).setCell E _,am,E⟩
theorem lx.made{h:Hp}{w wr w2:World}{t:Tree}{cT:Array Value}{bu:Nat}{lv kv:Value}{L:Nat}{ls xs:List Value}(a:lx h w t cT bu lv L wr ls)(M:h (w.heap.size+1)=none)(b:Below wr.heap.size wr w2)(A:Ow w2 h wr.heap.size 26 4 kv t.kids.length xs):eE h w t cT bu lv kv L h w2 0 ls xs:=by have O:=a.blt;have Y:=a.ub.lt;exact⟨a.st.same b,a.tb.below b,a.rb.below b,a.ub.below b,M,a.un,a.blt,a.lo.same b,a.jY,A.base (by omega),a.lu,fun e=>by have:=(A.lt _ e).1;omega,fun g e E=>by have:=(a.lo.lt g e).2;have:=(A.lt g E).1;omega,[],rfl,by simp[aJ],by simp[aN],fun u G=>by cases G⟩
section
variable {h h1 h2:Hp} {w wr w2:World} {t:Tree} {cT:Array Value} {bu L j:Nat} {lv kv:Value} {ls xs:List Value}
theorem eE.call(a:eE h w t cT bu lv kv L h1 wr j ls xs)(s:St wr.heap.size h1 wr h2 w2):eE h w t cT bu lv kv L h2 w2 j ls xs:=
 ⟨a.st.call s,a.tb.below s.below,a.rb.below s.below,a.ub.below s.below,(s.aI _ a.rb.lt).trans a.rn,(s.aI _ a.ub.lt).trans a.un,a.blt,a.lo.call s,a.jY,a.ko.call s,a.lu,a.ku,a.lk,by obtain⟨us,A,E,G⟩:=a.kids;exact⟨us,A,E.mono fun _ _ r=>r.mono s.le,G⟩⟩
theorem eE.below(a:eE h w t cT bu lv kv L h1 wr j ls xs)(b:Below wr.heap.size wr w2):eE h w t cT bu lv kv L h1 w2 j ls xs:=a.call (St.pI a.st.I b)
theorem eE.drew(a:eE h w t cT bu lv kv L h1 wr j ls xs):eE h w t cT bu lv kv L h1 wr.drew j ls xs:=a.below (Below.refl _ _).drew
theorem eE.lead{A G:Nat}(a:eE h w t cT bu (ag (some ⟨A,0,none⟩) L G) kv L h1 wr j ls xs)(i:Nat)(Y:i<L)(s:ByteArray)(O:Sh1 s):eE h w t cT bu (ag (some ⟨A,0,none⟩) L G) kv L h1 (wr.setCell ⟨A,i,none⟩ (ah s)) j (ls.set i (ah s)) xs:=by
 have ab:=(a.lo.lt A rfl).1;have M:=a.lo.free A rfl;refine⟨a.st.setCell (p:=⟨A,i,none⟩) (by show _≤A;omega) M _,a.tb.ne (by omega) _ _,a.rb.ne (by omega) _ _,a.ub.ne (fun e=>a.lu (by rw[←e];rfl)) _ _,a.rn,a.un,a.blt,a.lo.set i _ (by omega),fun v E=> ?_,a.ko.setCell (fun e=>a.lk A rfl e) _,a.lu,a.ku,a.lk,a.kids⟩;rcases List.mem_or_eq_of_mem_set E with E|E;·exact a.jY v E
 ·exact⟨s,E,O⟩
theorem eE.b4{A ck:Nat}{u:Tree}{v0 O Y ab:Value}(a:eE h w t cT bu lv (ag (some ⟨A,0,none⟩) t.kids.length ck) L h1 wr j ls xs)(hj:j<t.kids.length)(ao:bg h1 u [v0,O,Y,ab])(e:u.bare=t.kids[j].bare)(am:u.lb):eE h w t cT bu lv (ag (some ⟨A,0,none⟩) t.kids.length ck) L h1 ((((wr.setCell ⟨A,j*4,none⟩ v0).setCell ⟨A,j*4+1,none⟩ O).setCell ⟨A,j*4+2,none⟩ Y).setCell ⟨A,j*4+3,none⟩ ab) (j+1) ls ((((xs.set (j*4) v0).set (j*4+1) O).set (j*4+2) Y).set (j*4+3) ab):=by
 have aB:=(a.ko.lt A rfl).1;have ak:=a.ko.free A rfl;have E:∀{q:World} (i:Nat) (v:Value),St w.heap.size h w h1 q→St w.heap.size h w h1 (q.setCell ⟨A,i,none⟩ v):=fun i v s=>s.setCell (p:=⟨A,i,none⟩) (by show _≤A;omega) ak _;have G:A≠bu:=fun e=>a.ku (by rw[←e];rfl);have M:lv.ownBlock≠some A:=fun e=>a.lk A e rfl;have ax:=a.ko.len
 refine⟨E _ _ (E _ _ (E _ _ (E _ _ a.st))),(((a.tb.ne (by omega) _ _).ne (by omega) _ _).ne (by omega) _ _).ne (by omega) _ _,(((a.rb.ne (by omega) _ _).ne (by omega) _ _).ne (by omega) _ _).ne (by omega) _ _,(((a.ub.ne G _ _).ne G _ _).ne G _ _).ne G _ _,a.rn,a.un,a.blt,
  (((a.lo.setCell M _).setCell M _).setCell M _).setCell M _,a.jY,(((a.ko.set _ v0 (by omega)).set _ O (by omega)).set _ Y (by omega)).set _ ab (by omega),a.lu,a.ku,a.lk,?_⟩
 obtain⟨us,ac,ad,aj⟩:=a.kids;refine⟨us++[u],by simp[ac],?_,aj.next hj e am⟩;rw[show(j+1)*4=j*4+4 by omega,A2 _ _ _ _ _ _ (by omega)];exact ad.append (aJ.one ao)
end
theorem eE.slot{h h1:Hp}{w wr:World}{t:Tree}{cT:Array Value}{bu L j:Nat}{lv:Value}{ls xs:List Value}{A ck:Nat}(a:eE h w t cT bu lv (ag (some ⟨A,0,none⟩) t.kids.length ck) L h1 wr j ls xs)(hj:j<t.kids.length):
  ∃O Y ab ac,(wr.cell? ⟨A,j*4,none⟩=some O∧wr.cell? ⟨A,j*4+1,none⟩=some Y∧wr.cell? ⟨A,j*4+2,none⟩=some ab∧wr.cell? ⟨A,j*4+3,none⟩=some ac)∧
   wr.frozen? ⟨A,j*4,none⟩=false∧wr.frozen? ⟨A,j*4+1,none⟩=false∧wr.frozen? ⟨A,j*4+2,none⟩=false∧wr.frozen? ⟨A,j*4+3,none⟩=false∧w.heap.size≠A∧A≠w.heap.size∧h1 A=none:=by
 obtain⟨g,e,ad,_,M,E,G⟩:=a.ko.cell (by omega);simp only[aC,cx,and_true]at e;subst e;have aj:=a.ko.len;exact⟨_,_,_,_,⟨E _ _ (aE (by omega)),E _ _ (aE (by omega)),E _ _ (aE (by omega)),E _ _ (aE (by omega))⟩,G _,G _,G _,G _,by omega,by omega,M⟩
theorem eE.oh{h h1:Hp}{w wr:World}{t:Tree}{cT:Array Value}{bu L j:Nat}{kv:Value}{ls xs:List Value}{A:Option Addr}{M:Nat}(a:eE h w t cT bu (ag A L M) kv L h1 wr j ls xs)(i:Nat)(ab:i<L):∃g y,A=some ⟨g,0,none⟩∧wr.cell? ⟨g,i,none⟩=some y∧(∀q,wr.frozen? ⟨g,q,none⟩=false)∧(∀q,q<L→∃y,wr.cell? ⟨g,q,none⟩=some y)∧w.heap.size≠g∧g≠w.heap.size∧bu≠g∧g≠bu:=by obtain⟨g,e,Y,_,ac,E,O⟩:=a.lo.cell (by omega);subst e;have aj:=a.lo.len;have G:g≠bu:=fun e=>a.lu (by rw[←e];rfl);exact⟨g,_,rfl,E _ _ (aE (by omega)),O,fun q ad=>⟨_,E _ _ (aE (by omega))⟩,by omega,by omega,fun e=>G e.symm,G⟩
theorem Sl.bi{h:Hp}{b M m E n k:Nat}{cs:List Value}(s:Sl h (ag (some ⟨b,M,none⟩) m E) n k cs)(O:0<n):∃c,h b=some c:=by
 obtain⟨a,c,e,_,_,A⟩:=s;simp only[bU]at e;obtain⟨rfl,rfl,rfl⟩:=e;rcases A with A|⟨b',Y,c',e,G,_⟩;·omega
 ·simp only[aC,cx,and_true]at e;exact⟨c',by rw[e.1];exact G⟩
def A3(h:Hp)(w:World)(t:Tree)(e:Ending)(w':World):Prop:=∃v' h' t',e= .returned v'∧St w.heap.size h w h' w'∧aP h' v' t'∧t'.bare=t.bare∧t'.lb
theorem vi:∀{xs:List Value},PcV xs→∃l:List ByteArray,xs=l.map ah∧∀s∈l,s.size≤1000
 |[],_=>⟨[],rfl,fun _ h=>by cases h⟩
 |x::xs,h=>by
  obtain⟨s,rfl,G⟩:=h x eu;obtain⟨l,e,E⟩:=vi (xs:=xs) fun v M=>h v (cW _ M);refine⟨s::l,by rw[e];rfl,fun q A=> ?_⟩;rcases List.mem_cons.1 A with rfl|A;·exact G
  ·exact E q A
theorem eE.fin{h h1:Hp}{w wr:World}{t:Tree}{cT:Array Value}{bu L:Nat}{lv kv:Value}{ls xs:List Value}(a:eE h w t cT bu lv kv L h1 wr t.kids.length ls xs)(aB:aG t.kind)(aQ:L≤1000000)(aL:t.kids.length≤140737488355328)(G:Value):A3 h w t (.returned (.agg #[af ae t.kind,ah t.text,lv,kv])) (((((wr.setCell ⟨bu,3,none⟩ G).setCell ⟨w.heap.size+1,0,none⟩ (af ae t.kind)).setCell ⟨w.heap.size+1,1,none⟩ (ah t.text)).setCell ⟨w.heap.size+1,2,none⟩ lv).setCell ⟨w.heap.size+1,3,none⟩ kv):=by
 have aS:=a.blt;have aP:=a.st.setCell (p:=⟨bu,3,none⟩) (by show _≤bu;omega) a.un G;have ao:=(((aP.setCell (p:=⟨w.heap.size+1,0,none⟩) (my _) a.rn (af ae t.kind)).setCell (p:=⟨w.heap.size+1,1,none⟩) (my _) a.rn (ah t.text)).setCell (p:=⟨w.heap.size+1,2,none⟩) (my _) a.rn lv).setCell (p:=⟨w.heap.size+1,3,none⟩) (my _) a.rn kv;have E:lv.ownBlock≠some (w.heap.size+1):=fun e=>by have:=(a.lo.lt _ e).1;omega
 have A:kv.ownBlock≠some (w.heap.size+1):=fun e=>by have:=(a.ko.lt _ e).1;omega
 have aO:=((((a.lo.setCell (p:=⟨bu,3,none⟩) a.lu G).setCell (p:=⟨w.heap.size+1,0,none⟩) E (af ae t.kind)).setCell (p:=⟨w.heap.size+1,1,none⟩) E (ah t.text)).setCell (p:=⟨w.heap.size+1,2,none⟩) E lv).setCell (p:=⟨w.heap.size+1,3,none⟩) E kv;have aM:=((((a.ko.setCell (p:=⟨bu,3,none⟩) a.ku G).setCell (p:=⟨w.heap.size+1,0,none⟩) A (af ae t.kind)).setCell (p:=⟨w.heap.size+1,1,none⟩) A (ah t.text)).setCell (p:=⟨w.heap.size+1,2,none⟩) A lv).setCell (p:=⟨w.heap.size+1,3,none⟩) A kv;have am:=(aO.base (B':=w.heap.size) (by omega)).sl (by omega);have aN:=(aM.base (B':=w.heap.size) (by omega)).sl aL;obtain⟨us,ax,ac,M⟩:=a.kids;have aT:=a.ko.len;rw[List.take_of_length_le (by omega)]at ac;rw[List.take_length]at M;obtain⟨l,ad,aJ⟩:=vi a.jY;obtain⟨Y,ab,rfl⟩:=a.lo.shape;obtain⟨O,ck,rfl⟩:=a.ko.shape;have aj:l.length=L:=by have:=a.lo.len;rw[ad,dL]at this;omega
 have ak:us.length=t.kids.length:=ax;refine⟨_,_,.node t.kind t.text l us,rfl,ao.fr,⟨[af ae t.kind,ah t.text,ag Y L ab,ag O t.kids.length ck],rfl,?_⟩,?_,?_⟩
 ·rw[bg.iff];refine⟨Y,ab,O,ck,xs,?_,aB,?_,?_,ac.mono fun _ _ r=>r.mono (Hp.gQ ao.I)⟩;·simp only[Tree.kind,Tree.text,Tree.leads,Tree.kids,aj,ak]
  ·simp only[Tree.leads,aj];rw[ad]at am;exact am
  ·simp only[Tree.kids,ak];exact aN
 ·cases t;rw[Tree.bare,Tree.bare];have:=M.1;simp only[Tree.kids,Tree.kind,Tree.text]at this⊢;rw[this]
 ·rw[Tree.lb];exact⟨⟨by omega,aJ⟩,u6 M.2⟩
end Go.Proofs.YtdplggpbgommnaaGreatDoor
