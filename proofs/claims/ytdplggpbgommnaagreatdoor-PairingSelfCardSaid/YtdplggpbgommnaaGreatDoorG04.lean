/- Flat trees are well formed: the kids of a node are the nodes whose parent it is. -/
import Derived.Test.YtdplggpbgommnaaGreatDoorG03
open Go.Addr.mk renaming injEq→cx
open Go.IntKind renaming i64→ae
open Go.Lib renaming hid→aa
open Go.Obj renaming cells→au
open Go.Proofs.Tryz renaming prog→ai
open Go.Value renaming int→af,slice→ag,tuple→bD
open Go.Value.slice renaming injEq→bU
open Go.World renaming cell?_alloc_at→cJ
open Go.World.grownBy renaming refl→kC
open List renaming Nodup→ph,append_assoc→fI,append_nil→jG,drop_eq_getElem_cons→jh,drop_length→mu,flatMap_cons→fH,flatMap_nil→KU,getD_eq_getElem?_getD→bb,getElem?_append_left→jD,getElem?_append_right→ih,getElem?_cons_zero→bc,getElem?_eq_getElem→aE,getElem?_eq_none→gM,length_append→cI,length_map→dL,map_append→gO,map_congr_left→jF,mem_append→ev,mem_filter→lz,mem_flatMap→hM,mem_map→b6,mem_singleton→eR,nodup_append→BJ,pairwise_cons→fJ,pairwise_map→mo,take_add_one→j5,take_length→cP
open List.Pairwise renaming filter→vM,imp_of_mem→pj,imp→pk
open Nat renaming add_assoc→bP,div_eq_of_lt→Ke,le_refl→an,lt_or_ge→b7,mul_comm→vF,zero_le→aW
open Option.some renaming injEq→aC,inj→aU
open Prod.mk renaming injEq→jg
set_option maxRecDepth 100000
set_option maxHeartbeats 4000000
namespace Go.Proofs.YtdplggpbgommnaaGreatDoor
open Go.RowKit
structure FW(x:List aB)(n:Nat)(roots:List Int)(P:Int):Prop where
 b4:∀(i:Nat) (nd:aB) (c:Int),x[i]? =some nd→c∈nd.kids→∃(m:Nat) (md:aB),x[m]? =some md∧c=((n+m:Nat):Int)∧i<m∧md.parent=((n+i:Nat):Int)
 par:∀(i:Nat) (nd:aB),x[i]? =some nd→(nd.parent=P∧((n+i:Nat):Int)∈roots)∨∃(j:Nat) (jd:aB),x[j]? =some jd∧j<i∧nd.parent=((n+j:Nat):Int)∧((n+i:Nat):Int)∈jd.kids
 gU:∀(i:Nat) (nd:aB),x[i]? =some nd→nd.kids.Pairwise (·<·)
 root:∀r∈roots,∃(m:Nat) (md:aB),x[m]? =some md∧r=((n+m:Nat):Int)∧md.parent=P
 sz:∀(i:Nat) (nd:aB),x[i]? =some nd→nd.size=1+(nd.kids.map fun c:Int=>(x.getD (c-(n:Int)).toNat default).size).sum
 kS:(roots.map fun c:Int=>(x.getD (c-(n:Int)).toNat default).size).sum=(x.length:Int)
theorem xd{x y:List aB}{n m:Nat}(h:m<x.length):(x++y).getD (((n+m:Nat):Int)-n).toNat default=x.getD (((n+m:Nat):Int)-n).toNat default:=by
 have e:(((n+m:Nat):Int)-n).toNat=m:=by omega
 rw[e,bb,bb,jD h]
theorem xe{x y:List aB}{n m:Nat}:(x++y).getD (((n+x.length+m:Nat):Int)-n).toNat default=y.getD (((n+x.length+m:Nat):Int)-((n+x.length:Nat):Int)).toNat default:=by
 have A:(((n+x.length+m:Nat):Int)-n).toNat=x.length+m:=by omega
 have E:(((n+x.length+m:Nat):Int)-((n+x.length:Nat):Int)).toNat=m:=by omega
 rw[A,E,bb,bb,ih (by omega)];congr 2;omega
theorem tx{x:List aB}{m:Nat}{md:aB}(h:x[m]? =some md):m<x.length:=by
 rcases b7 m x.length with A|A;·exact A
 ·rw[gM A]at h;cases h
theorem FW.append{x y:List aB}{n:Nat}{r s:List Int}{P:Int}(a:FW x n r P)(b:FW y (n+x.length) s P):FW (x++y) n (r++s) P:=by
 have ab:∀(i:Nat) (nd:aB),(x++y)[i]? =some nd→(x[i]? =some nd∧i<x.length)∨(∃k:Nat,i=x.length+k∧y[k]? =some nd):=by
  intro i nd h;rcases b7 i x.length with G|G;·rw[jD G]at h;exact .inl ⟨h,G⟩
  ·rw[ih G]at h;exact .inr ⟨i-x.length,by omega,h⟩
 have left:∀(i:Nat) (nd:aB),x[i]? =some nd→(x++y)[i]? =some nd:=fun i nd h=>by
  have G:i<x.length:=by
   rcases b7 i x.length with G|G;·exact G
   ·rw[gM G]at h;cases h
  rw[jD G];exact h
 have right:∀(i:Nat) (nd:aB),y[i]? =some nd→(x++y)[x.length+i]? =some nd:=fun i nd h=>by rw[ih (by omega),show x.length+i-x.length=i by omega];exact h
 refine⟨?_,?_,?_,?_,?_,?_⟩
 ·intro i nd c h E;rcases ab i nd h with⟨h,_⟩|⟨k,rfl,h'⟩;·obtain⟨m,md,h1,h2,A,M⟩:=a.b4 i nd c h E;exact⟨m,md,left m md h1,h2,A,M⟩
  ·obtain⟨m,md,h1,h2,A,M⟩:=b.b4 k nd c h' E;exact⟨x.length+m,md,right m md h1,by rw[h2];simp only[bP],by omega,by rw[M];simp only[bP]⟩
 ·intro i nd h;rcases ab i nd h with⟨h,_⟩|⟨k,rfl,h'⟩
  ·rcases a.par i nd h with⟨h1,h2⟩|⟨j,Y,h1,h2,A,M⟩;·exact .inl ⟨h1,List.mem_append_left _ h2⟩
   ·exact .inr ⟨j,Y,left j Y h1,h2,A,M⟩
  ·rcases b.par k nd h' with⟨h1,h2⟩|⟨j,Y,h1,h2,A,M⟩;·exact .inl ⟨h1,List.mem_append_right _ (by simpa only[bP]using h2)⟩
   ·exact .inr ⟨x.length+j,Y,right j Y h1,by omega,by rw[A];simp only[bP],by simpa only[bP]using M⟩
 ·intro i nd h;rcases ab i nd h with⟨h,_⟩|⟨k,rfl,h'⟩;·exact a.gU i nd h
  ·exact b.gU k nd h'
 ·intro q O;rcases ev.1 O with O|O;·obtain⟨m,md,h1,h2,A⟩:=a.root q O;exact⟨m,md,left m md h1,h2,A⟩
  ·obtain⟨m,md,h1,h2,A⟩:=b.root q O;exact⟨x.length+m,md,right m md h1,by rw[h2];simp only[bP],A⟩
 ·intro i nd h;rcases ab i nd h with⟨h,_⟩|⟨k,rfl,h'⟩;·rw[a.sz i nd h];congr 2;apply jF;intro c E;obtain⟨m,md,h1,rfl,_⟩:=a.b4 i nd c h E;rw[xd (tx h1)]
  ·rw[b.sz k nd h'];congr 2;apply jF;intro c E;obtain⟨m,md,h1,rfl,_⟩:=b.b4 k nd c h' E;rw[xe]
 ·rw[gO,List.sum_append];have ac:(r.map fun c:Int=>((x++y).getD (c-(n:Int)).toNat default).size)=r.map fun c:Int=>(x.getD (c-(n:Int)).toNat default).size:=by apply jF;intro c E;obtain⟨m,md,h1,rfl,_⟩:=a.root c E;rw[xd (tx h1)]
  have ad:(s.map fun c:Int=>((x++y).getD (c-(n:Int)).toNat default).size)=s.map fun c=>(y.getD (c-((n+x.length:Nat):Int)).toNat default).size:=by apply jF;intro c E;obtain⟨m,md,h1,rfl,_⟩:=b.root c E;rw[xe]
  rw[ac,ad,a.kS,b.kS,cI];omega
theorem FW.cons{x:List aB}{n:Nat}{P:Int}(r:aB)(a:FW x (n+1) r.kids (n:Int))(M:r.parent=P)(ad:r.kids.Pairwise (·<·))(Y:r.size=(x.length:Int)+1):FW (r::x) n [(n:Int)] P:=by
 have sh:∀m:Nat,(r::x).getD (((n+1+m:Nat):Int)-n).toNat default=x.getD (((n+1+m:Nat):Int)-((n+1:Nat):Int)).toNat default:=fun m=>by
  have ab:(((n+1+m:Nat):Int)-n).toNat=m+1:=by omega
  have ac:(((n+1+m:Nat):Int)-((n+1:Nat):Int)).toNat=m:=by omega
  rw[ab,ac];rfl
 refine⟨?_,?_,?_,?_,?_,?_⟩
 ·intro i nd c h A;cases i with
  |zero=>simp only[bc,aC]at h;subst h;obtain⟨m,md,h1,h2,E⟩:=a.root c A;exact⟨m+1,md,by simpa using h1,by rw[h2];omega,by omega,by rw[E];simp⟩
  |succ i=>obtain⟨m,md,h1,h2,E,G⟩:=a.b4 i nd c (by simpa using h) A;exact⟨m+1,md,by simpa using h1,by rw[h2];omega,by omega,by rw[G];omega⟩
 ·intro i nd h;cases i with
  |zero=>simp only[bc,aC]at h;subst h;exact .inl ⟨M,by simp⟩
  |succ i=>
   right;rcases a.par i nd (by simpa using h)with⟨h1,h2⟩|⟨j,aj,h1,h2,E,G⟩;·exact⟨0,r,rfl,by omega,by rw[h1];simp,by rw[show n+(i+1)=n+1+i by omega];exact h2⟩
   ·exact⟨j+1,aj,by simpa using h1,by omega,by rw[E];omega,by rw[show n+(i+1)=n+1+i by omega];exact G⟩
 ·intro i nd h;cases i with
  |zero=>simp only[bc,aC]at h;subst h;exact ad
  |succ i=>exact a.gU i nd (by simpa using h)
 ·intro q O;simp only[eR]at O;exact⟨0,r,rfl,by rw[O];simp,M⟩
 ·intro i nd h;cases i with
  |zero=>
   simp only[bc,aC]at h;subst h;have e:(r.kids.map fun c:Int=>((r::x).getD (c-(n:Int)).toNat default).size)=r.kids.map fun c=>(x.getD (c-((n+1:Nat):Int)).toNat default).size:=by apply jF;intro c A;obtain⟨m,md,h1,rfl,_⟩:=a.root c A;rw[sh]
   rw[e,a.kS,Y];omega
  |succ i=>
   have h':x[i]? =some nd:=by simpa using h
   rw[a.sz i nd h'];congr 2;apply jF;intro c A;obtain⟨m,md,h1,rfl,_⟩:=a.b4 i nd c h' A;rw[sh]
 ·simp[Y]
theorem Dz(ts:List Tree)(n:Nat):(dC ts n).Pairwise (·<·):=by
 induction ts generalizing n with
 |nil=>simp[dC]
 |cons t ts E=>
  simp only[dC,fJ];refine⟨fun x A=> ?_,E _⟩;have:=xa ts _ x A;have G:0<t.size:=by have:=t.size_eq;omega
  omega
mutual
theorem xf:∀(t:Tree) (P:Int) (n:Nat),FW (ej t P n) n [(n:Int)] P
 | .node k s l A,P,n=>by rw[ej];exact FW.cons _ (xg A n (n+1)) rfl (Dz _ _) (by rw[tr])
theorem xg:∀(ts:List Tree) (p n:Nat),FW (eJ ts p n) n (dC ts n) (p:Int)
 |[],p,n=>by rw[eJ,dC];exact⟨fun i nd c h=>by simp at h,fun i nd h=>by simp at h,fun i nd h=>by simp at h,fun r h=>by simp at h,fun i nd h=>by simp at h,by simp⟩
 |t::ts,p,n=>by rw[eJ,dC];have h2:=xg ts p (n+t.size);have:=FW.append (xf t (p:Int) n) (by rw[lN];exact h2);simpa using this
end
structure WF(x:List aB):Prop where
 pos:0<x.length
 root:∀(nd:aB),x[0]? =some nd→nd.parent= -1
 b4:∀(i:Nat) (nd:aB) (c:Int),x[i]? =some nd→c∈nd.kids→∃(m:Nat) (md:aB),x[m]? =some md∧c=(m:Int)∧i<m∧md.parent=(i:Int)
 par:∀(i:Nat) (nd:aB),x[i]? =some nd→0<i→∃(j:Nat) (jd:aB),x[j]? =some jd∧j<i∧nd.parent=(j:Int)∧(i:Int)∈jd.kids
 gU:∀(i:Nat) (nd:aB),x[i]? =some nd→nd.kids.Pairwise (·<·)
 sz:∀(i:Nat) (nd:aB),x[i]? =some nd→nd.size=1+(nd.kids.map fun c=>(x.getD c.toNat default).size).sum
 kS:(x.getD 0 default).size=(x.length:Int)
theorem q4(t:Tree):WF (aO t):=by
 have f:=xf t (-1) 0;have M:0<(aO t).length:=by rw[nJ];have:=t.size_eq;omega
 refine⟨M,?_,?_,?_,f.gU,fun i nd h=>by have:=f.sz i nd h;simpa[aO]using this,by have:=f.kS;simpa[aO]using this⟩
 ·intro nd h;rcases f.par 0 nd h with⟨h1,_⟩|⟨j,_,_,h2,_⟩;·exact h1
  ·omega
 ·intro i nd c h G;obtain⟨m,md,h1,h2,A,E⟩:=f.b4 i nd c h G;exact⟨m,md,h1,by rw[h2];simp,A,by rw[E];simp⟩
 ·intro i nd h Y;rcases f.par i nd h with⟨_,h2⟩|⟨j,O,h1,h2,A,E⟩;·simp at h2;omega
  ·exact⟨j,O,h1,h2,by rw[A];simp,by simpa using E⟩
theorem q5(n:Nat):∀(l:List Nat),l.Nodup→(∀a∈l,a<n)→l.length≤n:=by
 induction n with
 |zero=>intro l _ h;cases l with|nil=>simp|cons a l=>have:=h a (by simp);omega
 |succ n M=>
  intro l E h;by_cases G:n∈l
  ·have h1:=M (l.erase n) (E.erase n) (fun a A=>by have:=(E.mem_erase_iff).1 A;have:=h a this.2;omega)
   rw[List.length_erase_of_mem G]at h1;omega
  ·have:=M l E (fun a A=>by have:=h a A;have:a≠n:=fun e=>G (e▸A);omega)
   omega
theorem xh{α O:Type}{f:α→List O}:∀{l:List α},(∀a∈l,(f a).Nodup)→l.Pairwise (fun a b=>∀q,q∈f a→q∈f b→False)→(l.flatMap f).Nodup
 |[],_,_=>by simp
 |a::l,h1,h2=>by rw[fJ]at h2;rw[fH,BJ];refine⟨h1 a (by simp),xh (fun b A=>h1 b (by simp[A])) h2.2,?_⟩;intro q E r M e;subst e;obtain⟨b,A,G⟩:=hM.1 M;exact h2.1 b A q E G
def nd(x:List aB)(i:Int):aB:=x.getD i.toNat default
theorem nL{x:List aB}{m:Nat}{md:aB}(h:x[m]? =some md):nd x (m:Int)=md:=by simp[nd,h]
theorem gV{x:List aB}{i:Int}(A:0≤i)(h1:i<x.length):x[i.toNat]? =some (nd x i):=by
 have:i.toNat<x.length:=by omega
 simp[nd,aE this]
def bZ(x y:List aB)(p:Int×Int):Prop:=0≤p.1∧p.1<x.length∧0≤p.2∧p.2<y.length
structure KF(x y:List aB)(k:Int×Int→List (Int×Int)):Prop where
 inr:∀p,bZ x y p→∀q∈k p,bZ x y q∧p.1<q.1∧(nd x q.1).parent=p.1∧(nd y q.2).parent=p.2
 nodup:∀p,bZ x y p→(k p).Nodup
structure Good(x y:List aB)(k:Int×Int→List (Int×Int))(l:List (Int×Int))(i:Nat):Prop where
 nodup:l.Nodup
 inr:∀p∈l,bZ x y p
 eq:l=(0,0)::(l.take i).flatMap k
 le:i≤l.length
theorem Good.len{x y:List aB}{k:Int×Int→List (Int×Int)}{l:List (Int×Int)}{i:Nat}(g:Good x y k l i):l.length≤x.length*y.length:=by
 have h:=q5 (x.length*y.length) (l.map fun p=>p.1.toNat*y.length+p.2.toNat) ?_ ?_;·simpa using h
 ·rw[ph,mo];refine pj ?_ g.nodup;intro a b E G O e;have h1:=g.inr a E;have h2:=g.inr b G;apply O;have A:a.1.toNat=b.1.toNat:=by have:=congrArg (fun z=>z/y.length) e;rw[vF a.1.toNat,vF b.1.toNat,Nat.mul_add_div (by unfold bZ at*;omega),Nat.mul_add_div (by unfold bZ at*;omega),Ke (by unfold bZ at*;omega),Ke (by unfold bZ at*;omega)]at this;omega
  have ab:a.2.toNat=b.2.toNat:=by rw[A]at e;omega
  unfold bZ at*;exact Prod.ext (by omega) (by omega)
 ·intro n M;obtain⟨p,Y,rfl⟩:=b6.1 M;have h1:=g.inr p Y;unfold bZ at h1
  calc p.1.toNat*y.length+p.2.toNat<p.1.toNat*y.length+y.length:=by omega
   _=(p.1.toNat+1)*y.length:=by rw[Nat.add_mul];omega
   _≤x.length*y.length:=Nat.mul_le_mul_right _ (by omega)
theorem oS{x y:List aB}{k:Int×Int→List (Int×Int)}(E:0<x.length)(hy:0<y.length):Good x y k [(0,0)] 0:=
 ⟨by simp,fun p A=>by simp only[eR]at A;subst A;exact⟨by simp,by simpa using E,by simp,by simpa using hy⟩,by simp,by simp⟩
theorem pL{x y:List aB}{k:Int×Int→List (Int×Int)}(K:KF x y k){l:List (Int×Int)}{i:Nat}(g:Good x y k l i)(aj:i<l.length):Good x y k (l++k l[i]) (i+1):=by
 have G:=g.inr l[i] (by simp);refine⟨?_,?_,?_,by simp;omega⟩
 ·rw[BJ];refine⟨g.nodup,K.nodup _ G,?_⟩;intro a E b ad e;subst e;obtain⟨h1,h2,O,Y⟩:=K.inr _ G a ad;rw[g.eq]at E;rcases List.mem_cons.1 E with rfl|E;·unfold bZ at G;simp only at h2;omega
  ·obtain⟨p,A,ac⟩:=hM.1 E;obtain⟨j,hj,M⟩:=List.mem_iff_getElem.1 A;rw[List.getElem_take]at M;rw[List.length_take]at hj;have ao:j<l.length:=by omega
   obtain⟨ak,am,h7,ab⟩:=K.inr p (g.inr p (by rw[←M];simp)) a ac;have:l[j]=l[i]:=by rw[M];exact Prod.ext (by rw[←h7,O]) (by rw[←ab,Y])
   have:=(List.getElem_inj g.nodup).1 this;omega
 ·intro p A;rcases ev.1 A with A|A;·exact g.inr p A
  ·exact(K.inr _ G p A).1
 ·rw[List.take_append_of_le_length (by omega),j5,aE aj];simp only[Option.toList_some,List.flatMap_append,fH,KU,jG];rw[←List.cons_append,←g.eq]
def ez(k:Int×Int→List (Int×Int))(budget:Nat):Nat→List (Int×Int)→Nat→Option (List (Int×Int))
 |0,_,_=>none
 |f+1,l,i=>if h:i<l.length then(if(l++k l[i]).length≤budget then ez k budget f (l++k l[i]) (i+1)else none)else some l
theorem pM{k:Int×Int→List (Int×Int)}{budget f:Nat}{l:List (Int×Int)}{i:Nat}(h:i<l.length)(A:(l++k l[i]).length≤budget)(E:0<f):ez k budget f l i=ez k budget (f-1) (l++k l[i]) (i+1):=by
 obtain⟨f,rfl⟩:∃g,f=g+1:=⟨f-1,by omega⟩
 rw[ez,dif_pos h,if_pos A];rfl
theorem xi{k:Int×Int→List (Int×Int)}{budget f:Nat}{l:List (Int×Int)}{i:Nat}(h:i<l.length)(A:budget<(l++k l[i]).length):ez k budget f l i=none:=by
 cases f with
 |zero=>rfl
 |succ f=>rw[ez,dif_pos h,if_neg (by omega)]
theorem pN{k:Int×Int→List (Int×Int)}{budget f:Nat}{l:List (Int×Int)}{i:Nat}(h:l.length≤i)(A:0<f):ez k budget f l i=some l:=by
 obtain⟨f,rfl⟩:∃g,f=g+1:=⟨f-1,by omega⟩
 rw[ez,dif_neg (by omega)]
theorem q6{x y:List aB}{k:Int×Int→List (Int×Int)}(K:KF x y k)(budget:Nat):∀(f:Nat) (l:List (Int×Int)) (i:Nat),Good x y k l i→l.length≤budget→budget<f+i→(∃r,ez k budget f l i=some r∧Good x y k r r.length∧r.length≤budget)∨(ez k budget f l i=none∧∃r j,Good x y k r j∧budget<r.length)
 |0,l,i,g,E,G=>by have:=g.le;omega
 |f+1,l,i,g,E,G=>by
  by_cases h:i<l.length
  ·by_cases A:(l++k l[i]).length≤budget;·rw[pM h A (by omega)];exact q6 K budget f _ _ (pL K g h) A (by omega)
   ·exact .inr ⟨xi h (by omega),_,_,pL K g h,by omega⟩
  ·have M:i=l.length:=by have:=g.le;omega
   subst M;exact .inl ⟨l,pN (an _) (by omega),g,E⟩
def fA(x y:List aB)(c:Int)(ds:List Int):List (Int×Int):=(ds.filter fun d=>decide ((nd x c).kind=(nd y d).kind)).map fun d=>(c,d)
def kp(x y:List aB)(p:Int×Int):List (Int×Int):=(nd x p.1).kids.flatMap fun c=>fA x y c (nd y p.2).kids
theorem eK{x:List aB}(M:WF x){i c:Int}(A:0≤i)(h1:i<x.length)(G:c∈(nd x i).kids):0≤c∧c<x.length∧i<c∧(nd x c).parent=i:=by
 obtain⟨m,md,h2,rfl,O,E⟩:=M.b4 i.toNat (nd x i) c (gV A h1) G
 have Y:m<x.length:=by
  rcases b7 m x.length with h|h;·exact h
  ·rw[gM h]at h2;cases h2
 refine⟨by omega,by omega,by omega,?_⟩;rw[nL h2,E];omega
theorem ty{x:List aB}(E:WF x){i:Int}(A:0≤i)(h1:i<x.length):(nd x i).kids.length≤x.length:=by
 have h:=q5 x.length ((nd x i).kids.map Int.toNat) ?_ ?_;·simpa using h
 ·rw[ph,mo];refine pj ?_ (E.gU i.toNat _ (gV A h1));intro a b G M ab e;have:=eK E A h1 G;have:=eK E A h1 M;omega
 ·intro n Y;obtain⟨c,O,rfl⟩:=b6.1 Y;have:=eK E A h1 O;omega
theorem q7{x y:List aB}(Y:WF x)(hy:WF y):KF x y (kp x y):=by
 refine⟨?_,?_⟩;·intro p A q G;obtain⟨c,aG,G⟩:=hM.1 G;obtain⟨d,E,rfl⟩:=b6.1 G;have E:=(lz.1 E).1;obtain⟨ab,ac,ad,aj⟩:=eK Y A.1 A.2.1 aG;obtain⟨b1,b2,b3,ao⟩:=eK hy A.2.2.1 A.2.2.2 E;exact⟨⟨ab,ac,b1,b2⟩,ad,aj,ao⟩
 ·intro p A;have ak:=Y.gU p.1.toNat _ (gV A.1 A.2.1);have am:=hy.gU p.2.toNat _ (gV A.2.2.1 A.2.2.2);unfold kp;refine xh (fun c _=> ?_) ?_;·unfold fA;rw[ph,mo];refine pk ?_ (vM _ am);intro a b ax e;simp only[jg,true_and]at e;omega
  ·refine pk ?_ ak;intro a b ax q M O;simp only[fA,b6,lz]at M O;obtain⟨d,_,rfl⟩:=M;obtain⟨d',_,e⟩:=O;simp only[jg]at e;omega
def fB(x y:List aB)(budget:Int):Option (List (Int×Int)):=
 if budget<1 then none else ez (kp x y) budget.toNat (budget.toNat+1) [(0,0)] 0
def DN(h:Hp)(w:World)(r:Option (List (Int×Int)))(e:Ending)(w':World):Prop:=
 ∃h',St w.heap.size h w h' w'∧match r with
  |none=>e= .returned (bD #[ag none 0 0,.bool false])
  |some l=>∃v,e= .returned (bD #[v,.bool true])∧jp h' v (cq l)
theorem xq(l:List (Int×Int))(p:Int×Int):(l++[p]).flatMap bV=l.flatMap bV++bV p:=by simp
theorem DO(x y:List aB)(c d:Int)(ds:List Int):fA x y c (d::ds)=(if(nd x c).kind=(nd y d).kind then[(c,d)]else[])++fA x y c ds:=by unfold fA;by_cases h:(nd x c).kind=(nd y d).kind<;>simp[h]
theorem gy.gA{h:Hp}{v:Value}{x:List aB}(aN:gy h v x)(aL:0<x.length):∃b A O,v=ag (some ⟨b,A,none⟩) x.length O∧x.length≤140737488355328∧
  ∀w,ao h w→b<w.heap.size∧∀i:Int,0≤i→i<x.length→∃M ck,w.cell? ⟨b,A+i.toNat*5,none⟩=some (af ae (nd x i).kind)∧w.cell? ⟨b,A+i.toNat*5+1,none⟩=some (.string (nd x i).text)∧
   w.cell? ⟨b,A+i.toNat*5+2,none⟩=some (af ae (nd x i).parent)∧w.cell? ⟨b,A+i.toNat*5+3,none⟩=some (ag M (nd x i).kids.length ck)∧w.cell? ⟨b,A+i.toNat*5+4,none⟩=some (af ae (nd x i).size)∧
   Ints h (ag M (nd x i).kids.length ck) (nd x i).kids∧aG (nd x i).kind∧aG (nd x i).parent∧aG (nd x i).size:=by
 obtain⟨cs,s,e⟩:=aN;obtain⟨a,O,rfl,ax⟩:=s.shape;have aM:=s;obtain⟨a',aS,ac,h1,h2,Y⟩:=aM;simp only[bU,true_and]at ac;obtain⟨rfl,rfl⟩:=ac;rcases Y with Y|⟨b,A,c,rfl,am,aV⟩;·omega
 refine⟨b,A,O,rfl,ax,fun w ad=>⟨cD (ad b c am),fun i ak h1=> ?_⟩⟩;obtain⟨b',aX,ab,aT,G⟩:=s.cells ad aL;simp only[aC,cx,and_true]at ab;obtain⟨rfl,rfl⟩:=ab;obtain⟨c5,g1,E⟩:=e.at 5 kM.len i.toNat (by omega);have aJ:x[i.toNat]=nd x i:=by have:=gV ak h1;rw[aE (by omega)]at this;exact aU this
 rw[aJ]at g1;obtain⟨M,ck,rfl,aO,aP,aQ,aj⟩:=g1;refine⟨M,ck,?_,?_,?_,?_,?_,aj,aO,aP,aQ⟩;·exact G _ _ (E 0 (by omega))
 ·rw[bP];exact G _ _ (E 1 (by omega))
 ·rw[bP];exact G _ _ (E 2 (by omega))
 ·rw[bP];exact G _ _ (E 3 (by omega))
 ·rw[bP];exact G _ _ (E 4 (by omega))
def lO(w:World)(h:Hp)(B:Nat)(v:Value)(l:List (Int×Int)):Prop:=Ow w h B 79 2 v l.length (l.flatMap bV)
theorem lO.open{w:World}{h:Hp}{B:Nat}{v:Value}{l:List (Int×Int)}(o:lO w h B v l)(i:Nat)(G:i<l.length):∃g A,v=ag (some ⟨g,0,none⟩) l.length A∧B≤g∧g<w.heap.size∧h g=none∧w.cell? ⟨g,i*2,none⟩=some (af ae l[i].1)∧w.cell? ⟨g,i*2+1,none⟩=some (af ae l[i].2):=by obtain⟨a,A,rfl⟩:=Ow.shape o;obtain⟨g,rfl,h1,h2,M,E,_⟩:=Ow.cell o (by omega);exact⟨g,A,rfl,h1,h2,M,E _ _ (mE l i G).1,E _ _ (mE l i G).2⟩
structure hS(h:Hp)(w wb:World)(g:Nat)(v:Value)(m:List (Int×Int))(w2:World):Prop where
 st:St w.heap.size h w h w2
 own:lO w2 h w.heap.size v m
 grown:wb.grownBy w2 (some g)
 bi:v.ownBlock=some g∨∃k,v.ownBlock=some k∧wb.heap.size≤k
theorem hS.lP{h:Hp}{w E:World}{g:Nat}{v:Value}{m:List (Int×Int)}{w2:World}(r:hS h w E g v m w2){X:Obj}{p:Int×Int}{v':Value}{w3:World}(st:St w.heap.size h w h w3)(O:Ow w3 h w.heap.size 79 2 v' (m.length+1) (m.flatMap bV++bV p))(G:(w2.alloc X).grownBy w3 v.ownBlock)(bk:v'.ownBlock=v.ownBlock∨v'.ownBlock=some (w2.alloc X).heap.size):hS h w E g v' (m++[p]) w3:=by
 refine⟨st,?_,kc (mD r.grown X) G (fun k A=> ?_),?_⟩;·unfold lO;rw[xq];simpa using O
 ·rcases r.bi with b|⟨Y,b,M⟩;·rw[b]at A;exact .inl A
  ·rw[b]at A;simp only[aC]at A;subst A;exact .inr M
 ·rcases bk with b|b;·rw[b];exact r.bi
  ·exact .inr ⟨_,b,by have:=r.grown.size;simp;omega⟩
theorem hS.drewN{h:Hp}{w A:World}{g:Nat}{v:Value}{m:List (Int×Int)}{w2:World}(r:hS h w A g v m w2)(n:Nat):hS h w A g v m (w2.drewN n):=
 ⟨r.st.drewN n,r.own.drewN n,⟨r.grown.os,r.grown.tape,r.grown.output,r.grown.size,r.grown.block⟩,r.bi⟩
theorem DP(h:Hp)(w:World)(ak:ao h w)(bY b0:Value)(x y:List aB)(budget:Int)(aM:aG budget)(bJ:gy h bY x)(hy:gy h b0 y)(aQ:WF x)(aS:WF y)(O:(nd x 0).kind=(nd y 0).kind)(db:x.length≤262144)(de:y.length≤262144):Calls ai 105 #[bY,b0,af ae budget] w (DN h w (fB x y budget)):=by
 obtain⟨bx,ey,dU,rfl,ep,bL⟩:=bJ.gA aQ.pos;obtain⟨dC,eA,dW,rfl,er,bN⟩:=hy.gA aS.pos;have a2:=aa (fun w' ak=>bL w' ak);have aT:=aa (fun w' ak=>bN w' ak);have ax:=aa ak;have cl:=aa (q7 aQ aS);have cw:=aa aQ;have cz:=aa aS;have cY:=aQ.pos;have cZ:=aS.pos;have eq:x.length*y.length≤262144*262144:=Nat.mul_le_mul db de;have GS:=aa (oS (k:=kp x y) cY cZ);unfold aG at aM;clear bJ hy bL bN aQ aS;obtain⟨dk,ck,b9,-⟩:=(a2.out w ax.out).2 0 (by omega) (by omega);obtain⟨dm,dE,cc,-⟩:=(aT.out w ax.out).2 0 (by omega) (by omega);simp only[Int.toNat_zero,Nat.zero_mul,Nat.add_zero]at b9 cc;have cN:((nd x 0).kind !=(nd y 0).kind)=false:=by simp[O]
 have dh:=aa O;clear O ak;by_cases aX:budget<1;·go_enter Tryz.func105,Tryz.ntmps105;go_wp2_with fail;go_quiet(fail);go_wp2_with fail;go_ret2;exact⟨h,(St.refl ax.out).drewN _,by rw[fB,if_pos aX];rfl⟩
 have bq:1≤budget:=by omega
 have cg:Hid (ez (kp x y) budget.toNat (budget.toNat+1-0) [(0,0)] 0=fB x y budget):=by unfold Hid;rw[fB,if_neg aX];rfl
 have aX:decide (budget<1)=false:=by simpa using bq
 go_enter Tryz.func105,Tryz.ntmps105;go_wp2_with fail;go_quiet(fail);go_wp2_with fail;clear b9 cc cN aX;go_loopw[6,7,8,9,10,12,14,30,31,32,33,34,35,36,37,38,39,40,41,42,43,44,45,46,47,48,49,50,51,52,53,54,55,56,57,58,59,60,61,62,63,64,65,66,67,68,69,70,71,72,73,74,75,76,77,78,79,80,81,82,83,84] (fun _ _ v i _ _ _ _ _ _ _ _ _ _ _ _ _ _ _ _ _ _ _ _ _ _ _ _ _ _ _ _ _ _ _ _ _ _ _ _ _ _ _ _ _ _ _ _ _ _ _ _ _ _ _ _ _ _ _ _ _ _ wr=>∃(j:Nat) (l:List (Int×Int)),i=af ae j∧St w.heap.size h w h wr∧lO wr h w.heap.size v l∧Good x y (kp x y) l j∧(l.length:Int)≤budget∧Hid (ez (kp x y) budget.toNat (budget.toNat+1-j) l j=fB x y budget)) (fun _ _ _ i _ _ _ _ _ _ _ _ _ _ _ _ _ _ _ _ _ _ _ _ _ _ _ _ _ _ _ _ _ _ _ _ _ _ _ _ _ _ _ _ _ _ _ _ _ _ _ _ _ _ _ _ _ _ _ _ _ _ _=>budget.toNat-(intOf i).toNat);case atStart=>exact⟨0,[(0,0)],rfl,((St.refl ax.out).drewN _).alloc _,oP (w:=w.drewN _) ax.out (an _) [af ae 0,af ae 0] 1 2 79 (by simp[maxLen]) rfl,GS.out,by simpa using bq,cg⟩
 case round=>
  obtain⟨ab,rfl⟩:∃ab:World,ab=wr:=⟨_,rfl⟩
  obtain⟨j,l,rfl,S,G,ac,cQ,R⟩:=hrel;have ej:=ac.le;have en:=ac.len;by_cases a1:j<l.length
  ·obtain⟨g,cA,rfl,eb,ec,ed,dD,c1⟩:=G.open j a1;obtain⟨bS,bT,a8,a9⟩:=ac.inr l[j] (by simp);have ba:=aa (pL cl.out ac a1);have cj:Hid (l++kp x y l[j]=l++(nd x l[j].1).kids.flatMap fun c=>fA x y c (nd y l[j].2).kids):=rfl;have ch:=aa (fun aM cF=>pM (k:=kp x y) (budget:=budget.toNat) (f:=budget.toNat+1-j) a1 aM cF);have ci:=aa (fun aM=>xi (k:=kp x y) (budget:=budget.toNat) (f:=budget.toNat+1-j) a1 aM);generalize l[j]=p at*;obtain⟨d6,aP⟩:=a2.out ab S.I;obtain⟨d8,Y⟩:=aT.out ab S.I;obtain⟨dn,dF,-,-,-,dZ,-,a4,-⟩:=aP p.1 bS bT;obtain⟨dq,dN,-,-,-,d0,-,a5,-⟩:=Y p.2 a8 a9;have el:=a4.1.len.1;have em:=a5.1.len.1;have S':=aa S;have cn:=aa G;have dg:=aa ac;have ce:=aa a4;have di:=aa a5;clear aP Y S G ac a4 a5;have d3:=ba.out.len;generalize bp:l++kp x y p=T at*;have dj:=aa bp;clear bp;have cu:Hid (hS h w (ab.alloc (au #[af ae p.1,af ae p.2] 79)) g (ag (some ⟨g,0,none⟩) l.length cA) l (ab.alloc (au #[af ae p.1,af ae p.2] 79))):=⟨S'.out.alloc _,cn.out.alloc _,kC _ _,.inl rfl⟩
   go_wp2_with fail;go_loopw[6,7,8,12,14,47,48,49,50,51,52,53,54,55,56,57,58,59,60,61,62,63,64,65,66,67,68,69,70,71,72,73,74,75,76,77,78,79,80,81,82,83,84] (fun _ _ v _ _ i _ _ _ _ _ _ _ _ _ _ _ _ _ _ _ _ _ _ _ _ _ _ _ _ _ _ _ _ _ _ _ _ _ _ _ _ _ w2=>∃(A:Nat) (m:List (Int×Int)),A≤(nd x p.1).kids.length∧i=af ae A∧hS h w (ab.alloc (au #[af ae p.1,af ae p.2] 79)) g v m w2∧(m.length:Int)≤budget∧Hid (m++((nd x p.1).kids.drop A).flatMap (fun c=>fA x y c (nd y p.2).kids)=T)) (fun _ _ _ _ _ i _ _ _ _ _ _ _ _ _ _ _ _ _ _ _ _ _ _ _ _ _ _ _ _ _ _ _ _ _ _ _ _ _ _ _ _ _ _=>(nd x p.1).kids.length-(intOf i).toNat);case atStart=>exact⟨0,l,aW _,rfl,cu,cQ,cj.out.symm⟩
   case round=>
    obtain⟨w2,rfl⟩:∃w2:World,w2=wr:=⟨_,rfl⟩
    obtain⟨A,m,ei,rfl,M,bH,RT⟩:=hrel;obtain⟨dv,dR,rfl⟩:=Ow.shape M.own;have cE:=ta M.grown (fun k O=>by simp only[aC]at O;omega) 1;simp only[List.getElem?_toArray,List.getElem?_cons_succ,bc]at cE;by_cases bE:A<(nd x p.1).kids.length
    ·obtain⟨dp,dG,bA,-,aY⟩:=ce.out.open;simp only[bU,true_and]at bA;obtain⟨rfl,rfl⟩:=bA;obtain⟨dA,es,rfl,d4,aY⟩:=aY w2 M.st.I (by omega);have dX:=aY A bE;obtain⟨d9,Y⟩:=aT.out w2 M.st.I;obtain⟨dr,dO,-,-,-,d1,-,bB,-⟩:=Y p.2 a8 a9;have cf:=aa bB;have bv:Hid ((nd x p.1).kids[A]∈(nd x p.1).kids):=by unfold Hid;simp
     have aO:Hid ((nd x p.1).kids.drop A=(nd x p.1).kids[A]::(nd x p.1).kids.drop (A+1)):=jh bE;generalize cG:(nd x p.1).kids[A]=c at*;obtain⟨q1,c6,-,-⟩:=eK cw.out bS bT bv.out;have aL:Hid (m++fA x y c ((nd y p.2).kids.drop 0)++((nd x p.1).kids.drop (A+1)).flatMap (fun c=>fA x y c (nd y p.2).kids)=T):=by have:=RT.out;rw[aO.out,fH,←fI]at this;exact this
     have co:=aa M;clear Y bB aY cG M bv aO RT;go_wp2_with fail;go_loopw[6,7,8,14,58,59,60,61,62,63,64,65,66,67,68,69,70,71,72,73,74,75,76,77,78,79,80,81,82,83] (fun _ _ v _ i _ _ _ _ _ _ _ _ _ _ _ _ _ _ _ _ _ _ _ _ _ _ _ _ _ wr=>∃(E:Nat) (m:List (Int×Int)),E≤(nd y p.2).kids.length∧i=af ae E∧hS h w (ab.alloc (au #[af ae p.1,af ae p.2] 79)) g v m wr∧(m.length:Int)≤budget∧Hid (m++fA x y c ((nd y p.2).kids.drop E)++((nd x p.1).kids.drop (A+1)).flatMap (fun c=>fA x y c (nd y p.2).kids)=T)) (fun _ _ _ _ i _ _ _ _ _ _ _ _ _ _ _ _ _ _ _ _ _ _ _ _ _ _ _ _ _ _=>(nd y p.2).kids.length-(intOf i).toNat);case atStart=>exact⟨0,m,aW _,rfl,co.out,bH,aL⟩
     case round=>
      obtain⟨E,n,ek,rfl,ad,bI,a3⟩:=hrel;obtain⟨dw,dT,rfl⟩:=Ow.shape ad.own;by_cases bG:E<(nd y p.2).kids.length
      ·obtain⟨dt,dP,bC,-,aZ⟩:=cf.out.open;simp only[bU,true_and]at bC;obtain⟨rfl,rfl⟩:=bC;obtain⟨dB,ex,rfl,d5,aZ⟩:=aZ wr ad.st.I (by omega);have dY:=aZ E bG;have bz:Hid ((nd y p.2).kids[E]∈(nd y p.2).kids):=by unfold Hid;simp
       have aO:Hid ((nd y p.2).kids.drop E=(nd y p.2).kids[E]::(nd y p.2).kids.drop (E+1)):=jh bG;generalize cM:(nd y p.2).kids[E]=d at*;obtain⟨c8,c9,-,-⟩:=eK cz.out a8 a9 bz.out;obtain⟨d7,aP⟩:=a2.out wr ad.st.I;obtain⟨ea,Y⟩:=aT.out wr ad.st.I;obtain⟨-,-,tC,-⟩:=aP c q1 c6;obtain⟨-,-,d2,-⟩:=Y d c8 c9;have aj:=a3.out;rw[aO.out,DO]at aj;have aJ:=aa ad;clear aP Y aZ cM ad bz aO a3;by_cases am:(nd x c).kind=(nd y d).kind
       ·rw[if_pos am]at aj;have g1:=ti am;have aV:Hid ((n++[(c,d)])++fA x y c ((nd y p.2).kids.drop (E+1))++((nd x p.1).kids.drop (A+1)).flatMap (fun c=>fA x y c (nd y p.2).kids)=T):=by unfold Hid;simpa only[fI]using aj
        have eo:n.length+1≤T.length:=by rw[←aV.out];simp
        clear am aj;by_cases aN:(n.length:Int)=budget
        ·have cB:=kO aN;have cd:Hid ((n.length:Int)=budget):=aN;clear aN;go_wp2_with fail;go_quiet(fail);go_wp2_with fail;go_ret2;refine⟨h,aJ.out.st.drewN _,?_⟩;have:fB x y budget=none:=by rw[←R.out];exact ci.out (by have:=cd.out;omega)
         rw[this];rfl
        ·have cB:=kK aN;have cD:(n.length:Int)+1≤budget:=by omega
         clear aN;go_wp2_with fail;go_quiet(fail);go_wp2_with(at_builtin;refine ft q3 rfl _ _ rfl ((aJ.out.st.drewN _).alloc _) _ n.length _ rfl ((aJ.out.own.drewN _).alloc _) ⟨_,0,none⟩ 1 1 (bV (c,d)) rfl rfl (cK _ _ _ _ (by simp)) (cm _ rfl) (by omega) ?_;intro eB w3 bX bR bm bd);have ct:=aa ((aJ.out.drewN _).lP bX bR bm bd);clear bX bR bm bd;go_roundw;case rel=>exact⟨E+1,n++[(c,d)],by omega,by go_num,ct.out,by simpa using cD,aV⟩
         case measure=>simp[intOf];omega
       ·rw[if_neg am]at aj;have g1:=q0 am;have aV:Hid (n++fA x y c ((nd y p.2).kids.drop (E+1))++((nd x p.1).kids.drop (A+1)).flatMap (fun c=>fA x y c (nd y p.2).kids)=T):=by unfold Hid;simpa using aj
        clear am aj;go_wp2_with fail;go_quiet(fail);go_wp2_with fail;go_roundw;case rel=>exact⟨E+1,n,by omega,by go_num,aJ.out.drewN _,bI,aV⟩
        case measure=>simp[intOf];omega
      ·obtain rfl:E=(nd y p.2).kids.length:=by omega
       go_wp2_with fail;go_roundw;case rel=>exact⟨A+1,n,by omega,by go_num,ad,bI,by unfold Hid;have:=a3.out;rw[mu]at this;simpa[fA]using this⟩
       case measure=>simp[intOf];omega
    ·obtain rfl:A=(nd x p.1).kids.length:=by omega
     have aL:=RT.out;rw[mu]at aL;simp only[KU,jG]at aL;subst aL;go_wp2_with fail;go_roundw;case rel=>exact⟨j+1,m,by go_num,M.st,M.own,ba.out,bH,by unfold Hid;rw[←R.out,ch.out (by omega) (by omega)];congr 1⟩
     case measure=>simp[intOf];omega
  ·obtain rfl:j=l.length:=by omega
   obtain⟨du,dQ,rfl⟩:=Ow.shape G;go_wp2_with fail;refine(tA h _ S.I w.heap.size _ l (by omega) G).mono ?_;rintro e eC ⟨rfl,bg,bO⟩;have cv:=aa (S.grown bg (fun k O=>⟨(G.lt k O).1,G.free k O⟩));have cX:=aa bO;have cC:Hid (fB x y budget=some l):=by unfold Hid;rw[←R.out];exact pN (an _) (by omega)
   clear bg bO G S R;go_wp2_with fail;go_ret2;refine⟨_,cv.out.fr,?_⟩;rw[cC.out];have cV:(cq l).length=l.length:=List.length_mergeSort _;refine⟨_,rfl,?_,?_⟩;·rw[cV];exact cX.out.sl (by omega)
   ·intro q cS;have cU:q∈l:=(List.mergeSort_perm l _).mem_iff.1 cS;have:=ac.inr q cU;unfold bZ at this;unfold aG;omega
def bL(x:List aB)(i:Int):List Int:=(nd x i).kids.map fun c=>(nd x c).size
def eA(x y:List aB)(p:Int×Int)(dm:Int×Int→Int):List (List Int):=
 (nd x p.1).kids.map fun c=>(nd y p.2).kids.map fun k=>if(nd x c).kind=(nd y k).kind then dm (c,k)else-1
def hE(w:World)(h:Hp)(B:Nat)(v:Value)(l:List Int):Prop:=Ow w h B 3 1 v l.length (l.map (af ae))
theorem hE.snoc{w:World}{h:Hp}{B:Nat}{v:Value}{l:List Int}{z:Int}(o:Ow w h B 3 1 v (l.length+1) (l.map (af ae)++[af ae z])):hE w h B v (l++[z]):=by unfold hE;rw[gO,cI];exact o
theorem q8{α A:Type}(f:α→A)(l:List α)(j:Nat)(h:j<l.length):(l.take (j+1)).map f=(l.take j).map f++[f l[j]]:=by rw[j5,aE h,gO];rfl
structure mI(h:Hp)(w:World)(h':Hp)(w':World)(v:Value)(l:List Int):Prop where
 st:St w.heap.size h w h' w'
 ints:Ints h' v l
theorem mI.mk'{h:Hp}{w w':World}{v:Value}{l:List Int}(S:St w.heap.size h w h w')(A:hE w' h w.heap.size v l)(E:l.length≤140737488355328)(G:∀q∈l,aG q):mI h w (h.fr w.heap.size w') w' v l:=
 ⟨S.fr,Ow.sl A E,G⟩
def DU(h:Hp)(w:World)(drop add:List Int)(cost:List (List Int))(e:Ending)(w':World):Prop:=
 ∃v1 v2 v3,e= .returned (bD #[v1,v2,v3])∧∃h',St w.heap.size h w h' w'∧Ints h' v1 drop∧Ints h' v2 add∧gP h' v3 cost
theorem DV(h:Hp)(w:World)(aO:ao h w)(cS cU:Value)(x y:List aB)(p:Int×Int)(r:Nat)(l:List ((Int×Int)×Value))(M:Int×Int→Int)(cF:gy h cS x)(hy:gy h cU y)(bv:WF x)(bz:WF y)(eF:x.length≤262144)(eG:y.length≤262144)(du:bZ x y p)(cD:fy w r l)(co:∀q,(fT l q).getD (af ae 0)=af ae (M q)∧aG (M q)):Calls ai 148 #[cS,cU,.agg #[af ae p.1,af ae p.2],.map (some r)] w (DU h w (bL x p.1) (bL y p.2) (eA x y p M)):=by
 obtain⟨bx,eD,d6,rfl,ex,cG⟩:=cF.gA bv.pos;obtain⟨dZ,eE,d7,rfl,ey,cM⟩:=hy.gA bz.pos;have aZ:=aa (fun w' aO=>cG w' aO);have a1:=aa (fun w' aO=>cM w' aO);have aX:=aa aO;have bG:=aa bv;have bH:=aa bz;have bV:=aa cD;have bT:=aa co;obtain⟨aQ,aS,aT,aV⟩:=du;have dN:(nd x p.1).kids.length≤262144:=by have:=ty bv aQ aS;omega
 have dO:(nd y p.2).kids.length≤262144:=by have:=ty bz aT aV;omega
 clear cF hy cG cM bv bz cD co aO;obtain⟨ek,E⟩:=aZ.out w aX.out;obtain⟨dP,d0,-,-,-,d9,-,cu,-⟩:=E p.1 aQ aS;clear E;have cY:=aa cu;clear cu;go_enter Tryz.func148,Tryz.ntmps148;go_wp2_with fail;go_loopw[8,12,27,28,29,30,31,32,33,34,35,36,37,38,39] (fun v _ i _ _ _ _ _ _ _ _ _ _ _ _ wr=>∃(j:Nat),j≤(nd x p.1).kids.length∧i=af ae j∧St (w.heap.size+1) h (w.alloc (au #[af ae p.1,af ae p.2] 79)) h wr∧hE wr h (w.heap.size+1) v (((nd x p.1).kids.take j).map fun c=>(nd x c).size)) (fun _ _ i _ _ _ _ _ _ _ _ _ _ _ _ _=>(nd x p.1).kids.length-(intOf i).toNat);case atStart=>exact⟨0,aW _,rfl,St.dN (aX.out.alloc _) (by simp),by simpa[hE]using Ow.nil _ _ _ _ _⟩
 case round=>
  obtain⟨j,hj,rfl,S,G⟩:=hrel;obtain⟨cc,cg,rfl⟩:=Ow.shape G;have S':=aa S;have a2:=aa G;have aL:=aa S.I;by_cases ak:j<(nd x p.1).kids.length
  ·obtain⟨b9,cf,aj,-,A⟩:=cY.out.open;simp only[bU,true_and]at aj;obtain⟨rfl,rfl⟩:=aj;obtain⟨ce,cN,rfl,cj,A⟩:=A wr S.I (by omega);have ci:=A j ak;have ad:Hid ((nd x p.1).kids[j]∈(nd x p.1).kids):=by unfold Hid;simp
   have aY:=aa (q8 (fun c=>(nd x c).size) (nd x p.1).kids j ak);generalize ba:(nd x p.1).kids[j]=c at*;obtain⟨q1,ab,-,-⟩:=eK bG.out aQ aS ad.out;obtain⟨cl,E⟩:=aZ.out wr aL.out;obtain⟨-,-,-,-,-,-,dk,-,-,-,bg⟩:=E c q1 ab;clear E A ba ad S G;have cB:(((nd x p.1).kids.take j).map fun c=>(nd x c).size).length≤262144:=by simp;omega
   generalize(((nd x p.1).kids.take j).map fun c=>(nd x c).size)=L at*;go_wp2_with(at_builtin;refine ft fP rfl _ _ rfl (S'.out.alloc _) _ L.length _ rfl (Ow.alloc a2.out _) ⟨_,0,none⟩ 1 1 [af ae (nd x c).size] rfl rfl (cK _ _ _ _ (by simp)) (cm _ rfl) (by omega) ?_;intro bS w3 bO bJ dn di);go_roundw;case rel=>exact⟨j+1,by omega,by go_num,bO,by rw[aY.out];exact hE.snoc bJ⟩
   case measure=>simp[intOf];omega
  ·obtain rfl:j=(nd x p.1).kids.length:=by omega
   have hz:(w.alloc (au #[af ae p.1,af ae p.2] 79)).heap.size=w.heap.size+1:=by simp
   have ac:hE wr h (w.heap.size+1) (ag cc (nd x p.1).kids.length cg) (bL x p.1):=by have:=G;simp only[cP,dL]at this;exact this
   have a4:mI h (w.alloc (au #[af ae p.1,af ae p.2] 79)) (h.fr (w.heap.size+1) wr) wr (ag cc (nd x p.1).kids.length cg) (bL x p.1):=by
    have:=mI.mk' (w:=w.alloc (au #[af ae p.1,af ae p.2] 79)) (by rw[hz];exact S) (by rw[hz];exact ac) (by simp only[bL,dL];omega) (by intro q bd;obtain⟨c,Y,rfl⟩:=b6.1 bd;obtain⟨q1,ab,-,-⟩:=eK bG.out aQ aS Y;obtain⟨-,E⟩:=aZ.out w aX.out;obtain⟨-,-,-,-,-,-,-,-,-,-,bg⟩:=E c q1 ab;exact bg)
    rw[hz]at this;exact this
   obtain⟨w1,rfl⟩:∃w1:World,w1=wr:=⟨_,rfl⟩
   generalize h.fr (w.heap.size+1) w1=h1 at*;have cE:w.heap.size<w1.heap.size:=by have:=a4.st.below.size;rw[hz]at this;omega
   have k1:w1.cell? ⟨w.heap.size,1,none⟩=some (af ae p.2):=by rw[a4.st.below.cell (by simp),cJ _ _ _ _ rfl];rfl
   have bE:Hid (St w.heap.size h w h1 w1):=((St.refl aX.out).alloc _).call a4.st;obtain⟨em,am⟩:=a1.out w1 bE.out.gq;obtain⟨dR,d2,-,-,-,ea,-,cw,-⟩:=am p.2 aT aV;have c6:=aa cw;have bC:=aa a4;clear am cw a4 S G ac hz;simp only[cP,dL];go_wp2_with fail;go_loopw[9,14,47,48,49,50,51,52,53,54,55,56,57,58,59] (fun v _ i _ _ _ _ _ _ _ _ _ _ _ _ wr=>∃(j:Nat),j≤(nd y p.2).kids.length∧i=af ae j∧St w1.heap.size h1 w1 h1 wr∧hE wr h1 w1.heap.size v (((nd y p.2).kids.take j).map fun c=>(nd y c).size)) (fun _ _ i _ _ _ _ _ _ _ _ _ _ _ _ _=>(nd y p.2).kids.length-(intOf i).toNat);case atStart=>exact⟨0,aW _,rfl,St.refl bC.out.st.I,by simpa[hE]using Ow.nil _ _ _ _ _⟩
   case round=>
    obtain⟨j,hj,rfl,S,G⟩:=hrel;obtain⟨cd,ch,rfl⟩:=Ow.shape G;have S':=aa S;have a2:=aa G;have aL:Hid (ao h wr):=fun b c Y=>S.I b c (bE.out.le b c Y);by_cases ak:j<(nd y p.2).kids.length
    ·obtain⟨b9,cf,aj,-,A⟩:=c6.out.open;simp only[bU,true_and]at aj;obtain⟨rfl,rfl⟩:=aj;obtain⟨ce,cN,rfl,cj,A⟩:=A wr aL.out (by omega);have ci:=A j ak;have ad:Hid ((nd y p.2).kids[j]∈(nd y p.2).kids):=by unfold Hid;simp
     have aY:=aa (q8 (fun c=>(nd y c).size) (nd y p.2).kids j ak);generalize ba:(nd y p.2).kids[j]=c at*;obtain⟨q1,ab,-,-⟩:=eK bH.out aT aV ad.out;obtain⟨cl,E⟩:=a1.out wr aL.out;obtain⟨-,-,-,-,-,-,dk,-,-,-,bg⟩:=E c q1 ab;clear E A ba ad S G;have cB:(((nd y p.2).kids.take j).map fun c=>(nd y c).size).length≤262144:=by simp;omega
     generalize(((nd y p.2).kids.take j).map fun c=>(nd y c).size)=L at*;go_wp2_with(at_builtin;refine ft fP rfl _ _ rfl (S'.out.alloc _) _ L.length _ rfl (Ow.alloc a2.out _) ⟨_,0,none⟩ 1 1 [af ae (nd y c).size] rfl rfl (cK _ _ _ _ (by simp)) (cm _ rfl) (by omega) ?_;intro bS w3 bO bJ dn di);go_roundw;case rel=>exact⟨j+1,by omega,by go_num,bO,by rw[aY.out];exact hE.snoc bJ⟩
     case measure=>simp[intOf];omega
    ·obtain rfl:j=(nd y p.2).kids.length:=by omega
     have ac:hE wr h1 w1.heap.size (ag cd (nd y p.2).kids.length ch) (bL y p.2):=by have:=G;simp only[cP,dL]at this;exact this
     have aM:mI h1 w1 (h1.fr w1.heap.size wr) wr (ag cd (nd y p.2).kids.length ch) (bL y p.2):=
      mI.mk' S ac (by simp only[bL,dL];omega) (by intro q bd;obtain⟨c,Y,rfl⟩:=b6.1 bd;obtain⟨q1,ab,-,-⟩:=eK bH.out aT aV Y;obtain⟨-,E⟩:=a1.out w aX.out;obtain⟨-,-,-,-,-,-,-,-,-,-,bg⟩:=E c q1 ab;exact bg)
     obtain⟨w2,rfl⟩:∃w2:World,w2=wr:=⟨_,rfl⟩
     generalize h1.fr w1.heap.size w2=h2 at*;have ax:Hid (St w.heap.size h w h2 w2):=bE.out.call aM.st;have dw:w.heap.size<w2.heap.size:=by have:=aM.st.below.size;omega
     have ez:w2.cell? ⟨w.heap.size,0,none⟩=some (af ae p.1):=by rw[aM.st.below.cell cE,bC.out.st.below.cell (by simp),cJ _ _ _ _ rfl];rfl
     have k2:Hid (w2.cell? ⟨w.heap.size,1,none⟩=some (af ae p.2)):=by unfold Hid;rw[aM.st.below.cell cE];exact k1
     obtain⟨cl,E⟩:=aZ.out w2 ax.out.gq;obtain⟨dQ,d1,-,-,-,eb,-,cv,-⟩:=E p.1 aQ aS;have cZ:=aa cv;have bY:=aa aM;clear E cv aM S G ac k1;simp only[cP,dL];go_wp2_with fail;go_loopw[10,16,17,19,67,68,69,70,71,72,73,74,75,76,77,78,79,80,81,82,83,84,85,86,87,88,89,90,91,92,93,94,95,96,97,98,99,100,101,102,103,104,105,106,107,108,109,110,111,112] (fun v _ _ _ i _ _ _ _ _ _ _ _ _ _ _ _ _ _ _ _ _ _ _ _ _ _ _ _ _ _ _ _ _ _ _ _ _ _ _ _ _ _ _ _ _ _ _ _ _ wr=>∃(j:Nat) (hj:Hp) (vs:List Value),j≤(nd x p.1).kids.length∧i=af ae j∧St w2.heap.size h2 w2 hj wr∧Ow wr hj w2.heap.size 34 1 v j vs∧aJ (io hj) (((nd x p.1).kids.take j).map fun c=>(nd y p.2).kids.map fun k=>if(nd x c).kind=(nd y k).kind then M (c,k)else-1) vs) (fun _ _ _ _ i _ _ _ _ _ _ _ _ _ _ _ _ _ _ _ _ _ _ _ _ _ _ _ _ _ _ _ _ _ _ _ _ _ _ _ _ _ _ _ _ _ _ _ _ _ _=>(nd x p.1).kids.length-(intOf i).toNat);case atStart=>exact⟨0,h2,[],aW _,rfl,St.refl ax.out.I,Ow.nil _ _ _ _ _,by simp[aJ]⟩
     case round=>
      obtain⟨O,rfl⟩:∃O:World,O=wr:=⟨_,rfl⟩
      obtain⟨j,hj,vs,eq,rfl,S,G,bA⟩:=hrel;obtain⟨dW,d5,rfl⟩:=Ow.shape G;have S':=aa S;have a2:=aa G;have cV:=aa bA;have aL:Hid (ao h O):=fun b c Y=>S.I b c (S.le b c (ax.out.le b c Y));by_cases ak:j<(nd x p.1).kids.length
      ·obtain⟨b9,cf,aj,-,A⟩:=cZ.out.open;simp only[bU,true_and]at aj;obtain⟨rfl,rfl⟩:=aj;obtain⟨ce,cN,rfl,cj,A⟩:=A O aL.out (by omega);have ci:=A j ak;have ad:Hid ((nd x p.1).kids[j]∈(nd x p.1).kids):=by unfold Hid;simp
       have aY:=aa (q8 (fun c=>(nd y p.2).kids.map fun k=>if(nd x c).kind=(nd y k).kind then M (c,k)else-1) (nd x p.1).kids j ak);generalize ba:(nd x p.1).kids[j]=c at*;obtain⟨q1,ab,-,-⟩:=eK bG.out aQ aS ad.out;clear A ba ad S G bA;have dA:w.heap.size<O.heap.size:=by have:=S'.out.below.size;omega
       have dB:O.cell? ⟨w.heap.size,1,none⟩=some (af ae p.2):=by rw[S'.out.below.cell dw];exact k2.out
       go_wp2_with(at_make;refine CV fP rfl _ _ rfl (St.refl S'.out.I) ae ae _ (nd y p.2).kids.length rfl rfl (by go_num) (by omega) ?_;intro w3 bq cQ dp;have eB:w3.cell? ⟨w.heap.size,1,none⟩=some (af ae p.2):=(by rw[bq.below.cell dA];exact dB);have dm:=(a1.out w3 (fun b c Y=>bq.I b c (S'.out.le b c (ax.out.le b c Y))));obtain⟨en,am⟩:=dm;obtain⟨dU,d4,-,-,-,ed,-,cz,-⟩:=am p.2 aT aV;have c8:=aa cz;have dh:=aa bq;have db:=aa cQ;clear am cz bq cQ dp);go_loopw[17,19,81,82,83,84,85,86,87,88,89,90,91,92,93,94,95,96,97,98,99,100,101,102,103,104,105,106,107] (fun v _ i _ _ _ _ _ _ _ _ _ _ _ _ _ _ _ _ _ _ _ _ _ _ _ _ _ _ wr=>∃(k:Nat),k≤(nd y p.2).kids.length∧i=af ae k∧St O.heap.size hj O hj wr∧hE wr hj O.heap.size v (((nd y p.2).kids.take k).map fun k=>if(nd x c).kind=(nd y k).kind then M (c,k)else-1)) (fun _ _ i _ _ _ _ _ _ _ _ _ _ _ _ _ _ _ _ _ _ _ _ _ _ _ _ _ _ _=>(nd y p.2).kids.length-(intOf i).toNat);case atStart=>exact⟨0,aW _,rfl,dh.out,by simpa[hE]using db.out⟩
       case round=>
        obtain⟨k,er,rfl,aN,a3⟩:=hrel;obtain⟨a8,a9,rfl⟩:=Ow.shape a3;have b0:=aa aN;have bX:=aa a3;have bB:Hid (ao h wr):=fun b c Y=>aN.I b c (S'.out.le b c (ax.out.le b c Y));by_cases cC:k<(nd y p.2).kids.length
        ·obtain⟨dT,d3,cA,-,A⟩:=c8.out.open;simp only[bU,true_and]at cA;obtain⟨rfl,rfl⟩:=cA;obtain⟨dY,eC,rfl,ej,A⟩:=A wr bB.out (by omega);have d8:=A k cC;have cq:Hid ((nd y p.2).kids[k]∈(nd y p.2).kids):=by unfold Hid;simp
         have bm:=aa (q8 (fun k=>if(nd x c).kind=(nd y k).kind then M (c,k)else-1) (nd y p.2).kids k cC);generalize dr:(nd y p.2).kids[k]=d at*;obtain⟨dD,dE,-,-⟩:=eK bH.out aT aV cq.out;obtain⟨el,E⟩:=aZ.out wr bB.out;obtain⟨eo,am⟩:=a1.out wr bB.out;obtain⟨-,-,tC,-⟩:=E c q1 ab;obtain⟨-,-,ec,-⟩:=am d dD dE;have dt:Hid (wr.heap[r]? =w.heap[r]?):=by have dv:=bV.out.lt;unfold Hid;rw[aN.below.block r (by omega),S'.out.below.block r (by omega)];exact ax.out.below.block r dv
         obtain⟨bI,cn⟩:=bT.out (c,d);have cB:(((nd y p.2).kids.take k).map fun k=>if(nd x c).kind=(nd y k).kind then M (c,k)else-1).length≤262144:=by simp;omega
         generalize(((nd y p.2).kids.take k).map fun k=>if(nd x c).kind=(nd y k).kind then M (c,k)else-1)=L at*;clear E am A dr cq aN a3;by_cases aP:(nd x c).kind=(nd y d).kind
         ·rw[if_pos aP]at bm;have g1:=kO aP;have es:∀bp,(Instr.lookup 217 (.map (some r)) (.agg #[af ae c,af ae d]) false).run ai (wr.drewN bp)= .ok (af ae (M (c,d))) (wr.drewN bp):=fun bp=>by have:=bV.out.look (c,d) 217 3 (af ae 0) Tryz.underlying217 (fun _=>by kernel_rfl) (wr.drewN bp) dt.out;rw[bI]at this;exact this
          clear aP bI cn;go_wp2_with fail;go_quiet(fail);go_wp2_with(at_builtin;refine ft fP rfl _ _ rfl ((b0.out.drewN _).alloc _) _ L.length _ rfl (Ow.alloc (Ow.drewN bX.out _) _) ⟨_,0,none⟩ 1 1 [af ae (M (c,d))] rfl rfl (cK _ _ _ _ (by simp)) (cm _ rfl) (by omega) ?_;intro bS dG bR bN dq dj);go_roundw;case rel=>exact⟨k+1,by omega,by go_num,bR,by rw[bm.out];exact hE.snoc bN⟩
          case measure=>simp[intOf];omega
         ·rw[if_neg aP]at bm;have g1:=kK aP;clear aP bI cn;go_wp2_with fail;go_quiet(fail);go_wp2_with(at_builtin;refine ft fP rfl _ _ rfl ((b0.out.drewN _).alloc _) _ L.length _ rfl (Ow.alloc (Ow.drewN bX.out _) _) ⟨_,0,none⟩ 1 1 [af ae (-1)] rfl rfl (cK _ _ _ _ (by simp)) (cm _ rfl) (by omega) ?_;intro bS dG bR bN dq dj);go_roundw;case rel=>exact⟨k+1,by omega,by go_num,bR,by rw[bm.out];exact hE.snoc bN⟩
          case measure=>simp[intOf];omega
        ·obtain rfl:k=(nd y p.2).kids.length:=by omega
         have ac:hE wr hj O.heap.size (ag a8 (nd y p.2).kids.length a9) ((nd y p.2).kids.map fun k=>if(nd x c).kind=(nd y k).kind then M (c,k)else-1):=by have:=a3;simp only[cP,dL]at this;exact this
         have a5:mI hj O (hj.fr O.heap.size wr) wr (ag a8 (nd y p.2).kids.length a9) ((nd y p.2).kids.map fun k=>if(nd x c).kind=(nd y k).kind then M (c,k)else-1):=
          mI.mk' aN ac (by simp only[dL];omega) (by
           intro q bd;obtain⟨d,ep,rfl⟩:=b6.1 bd;split;·exact(bT.out (c,d)).2
           ·unfold aG;omega)
         generalize hj.fr O.heap.size wr=ct at*;have dg:=aa (S'.out.call a5.st);have c9:=aa (a2.out.call a5.st);have cX:Hid (aJ (io ct) _ vs):=cV.out.mono fun _ _ q=>q.mono a5.st.le;have de:=aa a5;clear a5 aN a3 ac;simp only[cP,dL];go_wp2_with(at_builtin;refine ft sZ rfl _ _ rfl (dg.out.alloc _) _ j vs rfl (c9.out.alloc _) ⟨_,0,none⟩ 1 1 [ag a8 (nd y p.2).kids.length a9] rfl rfl (cK _ _ _ _ (by simp)) (cm _ rfl) (by omega) ?_;intro eH eI dF dC ei dX);go_roundw;case rel=>refine⟨j+1,ct,vs++[ag a8 (nd y p.2).kids.length a9],by omega,by go_num,dF,dC,?_⟩;rw[aY.out];exact cX.out.append (aJ.one ⟨a8,a9,by simp,by simpa using de.out.ints⟩)
         case measure=>simp[intOf];omega
      ·obtain rfl:j=(nd x p.1).kids.length:=by omega
       go_wp2_with fail;go_ret3;refine⟨_,_,_,rfl,_,(ax.out.call S).fr,?_,?_,vs,?_,?_⟩;·exact(bC.out.ints.mono bY.out.st.le).mono (Hp.le_trans S.le (Hp.gQ S.I))
       ·exact bY.out.ints.mono (Hp.le_trans S.le (Hp.gQ S.I))
       ·have:=(G.base (B':=w.heap.size) (by omega)).sl (by omega);simpa[eA]using this
       ·have:=bA.mono fun _ _ q=>q.mono (Hp.gQ (B:=w.heap.size) S.I);rw[cP]at this;exact this
end Go.Proofs.YtdplggpbgommnaaGreatDoor
