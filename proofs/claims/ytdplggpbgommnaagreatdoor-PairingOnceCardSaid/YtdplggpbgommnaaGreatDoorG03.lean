/- Flat trees are well formed: the kids of a node are the nodes whose parent it is. -/
import Derived.Test.YtdplggpbgommnaaGreatDoorG02
open Go.Addr.mk renaming injEq->cx
open Go.IntKind renaming i64->ae
open Go.Lib renaming hid->aa
open Go.Obj renaming cells->au
open Go.Proofs.Tryz renaming prog->ai
open Go.Value renaming int->af,slice->ag,tuple->bD
open Go.Value.slice renaming injEq->bU
open Go.World renaming cell?_alloc_at->cJ
open Go.World.grownBy renaming refl->kC
open List renaming Nodup->ph,append_assoc->fI,append_nil->jG,drop_eq_getElem_cons->jh,drop_length->K2,flatMap_cons->fH,flatMap_nil->KU,getD_eq_getElem?_getD->bb,getElem?_append_left->jD,getElem?_append_right->ih,getElem?_cons_zero->bc,getElem?_eq_getElem->aE,getElem?_eq_none->gM,length_append->cI,length_map->dL,map_append->gO,map_congr_left->jF,mem_append->xm,mem_filter->lz,mem_flatMap->hM,mem_map->b6,mem_singleton->eR,nodup_append->BJ,pairwise_cons->fJ,pairwise_map->mo,take_add_one->j5,take_length->cP
open List.Pairwise renaming filter->vM,imp_of_mem->pj,imp->pk
open Nat renaming add_assoc->bP,div_eq_of_lt->Ke,le_refl->kI,lt_or_ge->b7,mul_comm->vF,zero_le->aW
open Option.some renaming injEq->aC,inj->aU
open Prod.mk renaming injEq->jg
set_option maxRecDepth 100000
set_option maxHeartbeats 4000000
namespace Go.Proofs.YtdplggpbgommnaaGreatDoor
open Go.RowKit
structure FW(x:List aB)(n:Nat)(roots:List Int)(P:Int):Prop where
 b4:∀(i:Nat) (nd:aB) (c:Int),x[i]? =some nd->c∈nd.kids->∃(m:Nat) (md:aB),x[m]? =some md/\c=((n+m:Nat):Int)/\i<m/\md.parent=((n+i:Nat):Int)
 par:∀(i:Nat) (nd:aB),x[i]? =some nd->(nd.parent=P/\((n+i:Nat):Int)∈roots)\/∃(j:Nat) (jd:aB),x[j]? =some jd/\j<i/\nd.parent=((n+j:Nat):Int)/\((n+i:Nat):Int)∈jd.kids
 gU:∀(i:Nat) (nd:aB),x[i]? =some nd->nd.kids.Pairwise (·<·)
 root:∀r∈roots,∃(m:Nat) (md:aB),x[m]? =some md/\r=((n+m:Nat):Int)/\md.parent=P
 sz:∀(i:Nat) (nd:aB),x[i]? =some nd->nd.size=1+(nd.kids.map fun c:Int=>(x.getD (c-(n:Int)).toNat default).size).sum
 kS:(roots.map fun c:Int=>(x.getD (c-(n:Int)).toNat default).size).sum=(x.length:Int)
theorem xd{x y:List aB}{n m:Nat}(h:m<x.length):(x++y).getD (((n+m:Nat):Int)-n).toNat default=x.getD (((n+m:Nat):Int)-n).toNat default:=by
 have e:(((n+m:Nat):Int)-n).toNat=m:=by omega
 rw[e,bb,bb,jD h]
theorem xe{x y:List aB}{n m:Nat}:(x++y).getD (((n+x.length+m:Nat):Int)-n).toNat default=y.getD (((n+x.length+m:Nat):Int)-((n+x.length:Nat):Int)).toNat default:=by
 have G:(((n+x.length+m:Nat):Int)-n).toNat=x.length+m:=by omega
 have J:(((n+x.length+m:Nat):Int)-((n+x.length:Nat):Int)).toNat=m:=by omega
 rw[G,J,bb,bb,ih (by omega)];congr 2;omega
theorem tx{x:List aB}{m:Nat}{md:aB}(h:x[m]? =some md):m<x.length:=by
 rcases b7 m x.length with G|G;·exact G
 ·rw[gM G]at h;cases h
theorem FW.append{x y:List aB}{n:Nat}{r s:List Int}{P:Int}(a:FW x n r P)(b:FW y (n+x.length) s P):FW (x++y) n (r++s) P:=by
 have key:∀(i:Nat) (nd:aB),(x++y)[i]? =some nd->(x[i]? =some nd/\i<x.length)\/(∃k:Nat,i=x.length+k/\y[k]? =some nd):=by
  intro i nd h;rcases b7 i x.length with J|J;·rw[jD J]at h;exact .inl ⟨h,J⟩
  ·rw[ih J]at h;exact .inr ⟨i-x.length,by omega,h⟩
 have left:∀(i:Nat) (nd:aB),x[i]? =some nd->(x++y)[i]? =some nd:=fun i nd h=>by
  have J:i<x.length:=by
   rcases b7 i x.length with J|J;·exact J
   ·rw[gM J]at h;cases h
  rw[jD J];exact h
 have right:∀(i:Nat) (nd:aB),y[i]? =some nd->(x++y)[x.length+i]? =some nd:=fun i nd h=>by rw[ih (by omega),show x.length+i-x.length=i by omega];exact h
 refine⟨?_,?_,?_,?_,?_,?_⟩
 ·intro i nd c h hc;rcases key i nd h with⟨h,_⟩|⟨k,rfl,h'⟩;·obtain⟨m,md,h1,h2,G,O⟩:=a.b4 i nd c h hc;exact⟨m,md,left m md h1,h2,G,O⟩
  ·obtain⟨m,md,h1,h2,G,O⟩:=b.b4 k nd c h' hc;exact⟨x.length+m,md,right m md h1,by rw[h2];simp only[bP],by omega,by rw[O];simp only[bP]⟩
 ·intro i nd h;rcases key i nd h with⟨h,_⟩|⟨k,rfl,h'⟩
  ·rcases a.par i nd h with⟨h1,h2⟩|⟨j,ab,h1,h2,G,O⟩;·exact .inl ⟨h1,List.mem_append_left _ h2⟩
   ·exact .inr ⟨j,ab,left j ab h1,h2,G,O⟩
  ·rcases b.par k nd h' with⟨h1,h2⟩|⟨j,ab,h1,h2,G,O⟩;·exact .inl ⟨h1,List.mem_append_right _ (by simpa only[bP]using h2)⟩
   ·exact .inr ⟨x.length+j,ab,right j ab h1,by omega,by rw[G];simp only[bP],by simpa only[bP]using O⟩
 ·intro i nd h;rcases key i nd h with⟨h,_⟩|⟨k,rfl,h'⟩;·exact a.gU i nd h
  ·exact b.gU k nd h'
 ·intro q Y;rcases xm.1 Y with Y|Y;·obtain⟨m,md,h1,h2,G⟩:=a.root q Y;exact⟨m,md,left m md h1,h2,G⟩
  ·obtain⟨m,md,h1,h2,G⟩:=b.root q Y;exact⟨x.length+m,md,right m md h1,by rw[h2];simp only[bP],G⟩
 ·intro i nd h;rcases key i nd h with⟨h,_⟩|⟨k,rfl,h'⟩;·rw[a.sz i nd h];congr 2;apply jF;intro c hc;obtain⟨m,md,h1,rfl,_⟩:=a.b4 i nd c h hc;rw[xd (tx h1)]
  ·rw[b.sz k nd h'];congr 2;apply jF;intro c hc;obtain⟨m,md,h1,rfl,_⟩:=b.b4 k nd c h' hc;rw[xe]
 ·rw[gO,List.sum_append];have aj:(r.map fun c:Int=>((x++y).getD (c-(n:Int)).toNat default).size)=r.map fun c:Int=>(x.getD (c-(n:Int)).toNat default).size:=by apply jF;intro c hc;obtain⟨m,md,h1,rfl,_⟩:=a.root c hc;rw[xd (tx h1)]
  have ak:(s.map fun c:Int=>((x++y).getD (c-(n:Int)).toNat default).size)=s.map fun c=>(y.getD (c-((n+x.length:Nat):Int)).toNat default).size:=by apply jF;intro c hc;obtain⟨m,md,h1,rfl,_⟩:=b.root c hc;rw[xe]
  rw[aj,ak,a.kS,b.kS,cI];omega
theorem FW.cons{x:List aB}{n:Nat}{P:Int}(r:aB)(a:FW x (n+1) r.kids (n:Int))(hp:r.parent=P)(aj:r.kids.Pairwise (·<·))(hs:r.size=(x.length:Int)+1):FW (r::x) n [(n:Int)] P:=by
 have sh:∀m:Nat,(r::x).getD (((n+1+m:Nat):Int)-n).toNat default=x.getD (((n+1+m:Nat):Int)-((n+1:Nat):Int)).toNat default:=fun m=>by
  have Y:(((n+1+m:Nat):Int)-n).toNat=m+1:=by omega
  have ab:(((n+1+m:Nat):Int)-((n+1:Nat):Int)).toNat=m:=by omega
  rw[Y,ab];rfl
 refine⟨?_,?_,?_,?_,?_,?_⟩
 ·intro i nd c h hc;cases i with
  |zero=>simp only[bc,aC]at h;subst h;obtain⟨m,md,h1,h2,G⟩:=a.root c hc;exact⟨m+1,md,by simpa using h1,by rw[h2];omega,by omega,by rw[G];simp⟩
  |succ i=>obtain⟨m,md,h1,h2,G,J⟩:=a.b4 i nd c (by simpa using h) hc;exact⟨m+1,md,by simpa using h1,by rw[h2];omega,by omega,by rw[J];omega⟩
 ·intro i nd h;cases i with
  |zero=>simp only[bc,aC]at h;subst h;exact .inl ⟨hp,by simp⟩
  |succ i=>
   right;rcases a.par i nd (by simpa using h)with⟨h1,h2⟩|⟨j,ak,h1,h2,G,J⟩;·exact⟨0,r,rfl,by omega,by rw[h1];simp,by rw[show n+(i+1)=n+1+i by omega];exact h2⟩
   ·exact⟨j+1,ak,by simpa using h1,by omega,by rw[G];omega,by rw[show n+(i+1)=n+1+i by omega];exact J⟩
 ·intro i nd h;cases i with
  |zero=>simp only[bc,aC]at h;subst h;exact aj
  |succ i=>exact a.gU i nd (by simpa using h)
 ·intro q O;simp only[eR]at O;exact⟨0,r,rfl,by rw[O];simp,hp⟩
 ·intro i nd h;cases i with
  |zero=>
   simp only[bc,aC]at h;subst h;have e:(r.kids.map fun c:Int=>((r::x).getD (c-(n:Int)).toNat default).size)=r.kids.map fun c=>(x.getD (c-((n+1:Nat):Int)).toNat default).size:=by apply jF;intro c hc;obtain⟨m,md,h1,rfl,_⟩:=a.root c hc;rw[sh]
   rw[e,a.kS,hs];omega
  |succ i=>
   have h':x[i]? =some nd:=by simpa using h
   rw[a.sz i nd h'];congr 2;apply jF;intro c hc;obtain⟨m,md,h1,rfl,_⟩:=a.b4 i nd c h' hc;rw[sh]
 ·simp[hs]
theorem Dz(ts:List Tree)(n:Nat):(dC ts n).Pairwise (·<·):=by
 induction ts generalizing n with
 |nil=>simp[dC]
 |cons t ts G=>
  simp only[dC,fJ];refine⟨fun x hx=> ?_,G _⟩;have:=xa ts _ x hx;have hs:0<t.size:=by have:=t.size_eq;omega
  omega
mutual
theorem xf:∀(t:Tree) (P:Int) (n:Nat),FW (ej t P n) n [(n:Int)] P
 | .node k s l G,P,n=>by rw[ej];exact FW.cons _ (xg G n (n+1)) rfl (Dz _ _) (by rw[tr])
theorem xg:∀(ts:List Tree) (p n:Nat),FW (eJ ts p n) n (dC ts n) (p:Int)
 |[],p,n=>by rw[eJ,dC];exact⟨fun i nd c h=>by simp at h,fun i nd h=>by simp at h,fun i nd h=>by simp at h,fun r h=>by simp at h,fun i nd h=>by simp at h,by simp⟩
 |t::ts,p,n=>by rw[eJ,dC];have h2:=xg ts p (n+t.size);have:=FW.append (xf t (p:Int) n) (by rw[lN];exact h2);simpa using this
end
structure WF(x:List aB):Prop where
 pos:0<x.length
 root:∀(nd:aB),x[0]? =some nd->nd.parent= -1
 b4:∀(i:Nat) (nd:aB) (c:Int),x[i]? =some nd->c∈nd.kids->∃(m:Nat) (md:aB),x[m]? =some md/\c=(m:Int)/\i<m/\md.parent=(i:Int)
 par:∀(i:Nat) (nd:aB),x[i]? =some nd->0<i->∃(j:Nat) (jd:aB),x[j]? =some jd/\j<i/\nd.parent=(j:Int)/\(i:Int)∈jd.kids
 gU:∀(i:Nat) (nd:aB),x[i]? =some nd->nd.kids.Pairwise (·<·)
 sz:∀(i:Nat) (nd:aB),x[i]? =some nd->nd.size=1+(nd.kids.map fun c=>(x.getD c.toNat default).size).sum
 kS:(x.getD 0 default).size=(x.length:Int)
theorem q4(t:Tree):WF (aO t):=by
 have f:=xf t (-1) 0;have O:0<(aO t).length:=by rw[nJ];have:=t.size_eq;omega
 refine⟨O,?_,?_,?_,f.gU,fun i nd h=>by have:=f.sz i nd h;simpa[aO]using this,by have:=f.kS;simpa[aO]using this⟩
 ·intro nd h;rcases f.par 0 nd h with⟨h1,_⟩|⟨j,_,_,h2,_⟩;·exact h1
  ·omega
 ·intro i nd c h hc;obtain⟨m,md,h1,h2,G,J⟩:=f.b4 i nd c h hc;exact⟨m,md,h1,by rw[h2];simp,G,by rw[J];simp⟩
 ·intro i nd h ab;rcases f.par i nd h with⟨_,h2⟩|⟨j,Y,h1,h2,G,J⟩;·simp at h2;omega
  ·exact⟨j,Y,h1,h2,by rw[G];simp,by simpa using J⟩
theorem q5(n:Nat):∀(l:List Nat),l.Nodup->(∀a∈l,a<n)->l.length<=n:=by
 induction n with
 |zero=>intro l _ h;cases l with|nil=>simp|cons a l=>have:=h a (by simp);omega
 |succ n G=>
  intro l hn h;by_cases hm:n∈l
  ·have h1:=G (l.erase n) (hn.erase n) (fun a ha=>by have:=(hn.mem_erase_iff).1 ha;have:=h a this.2;omega)
   rw[List.length_erase_of_mem hm]at h1;omega
  ·have:=G l hn (fun a ha=>by have:=h a ha;have:a≠n:=fun e=>hm (e▸ha);omega)
   omega
theorem xh{α Y:Type}{f:α->List Y}:∀{l:List α},(∀a∈l,(f a).Nodup)->l.Pairwise (fun a b=>∀q,q∈f a->q∈f b->False)->(l.flatMap f).Nodup
 |[],_,_=>by simp
 |a::l,h1,h2=>by rw[fJ]at h2;rw[fH,BJ];refine⟨h1 a (by simp),xh (fun b G=>h1 b (by simp[G])) h2.2,?_⟩;intro q J r hr e;subst e;obtain⟨b,G,O⟩:=hM.1 hr;exact h2.1 b G q J O
def nd(x:List aB)(i:Int):aB:=x.getD i.toNat default
theorem nL{x:List aB}{m:Nat}{md:aB}(h:x[m]? =some md):nd x (m:Int)=md:=by simp[nd,h]
theorem gV{x:List aB}{i:Int}(G:0<=i)(h1:i<x.length):x[i.toNat]? =some (nd x i):=by
 have:i.toNat<x.length:=by omega
 simp[nd,aE this]
def bZ(x y:List aB)(p:Int×Int):Prop:=0<=p.1/\p.1<x.length/\0<=p.2/\p.2<y.length
structure KF(x y:List aB)(k:Int×Int->List (Int×Int)):Prop where
 inr:∀p,bZ x y p->∀q∈k p,bZ x y q/\p.1<q.1/\(nd x q.1).parent=p.1/\(nd y q.2).parent=p.2
 nodup:∀p,bZ x y p->(k p).Nodup
structure Good(x y:List aB)(k:Int×Int->List (Int×Int))(l:List (Int×Int))(i:Nat):Prop where
 nodup:l.Nodup
 inr:∀p∈l,bZ x y p
 eq:l=(0,0)::(l.take i).flatMap k
 le:i<=l.length
theorem Good.len{x y:List aB}{k:Int×Int->List (Int×Int)}{l:List (Int×Int)}{i:Nat}(g:Good x y k l i):l.length<=x.length*y.length:=by
 have h:=q5 (x.length*y.length) (l.map fun p=>p.1.toNat*y.length+p.2.toNat) ?_ ?_;·simpa using h
 ·rw[ph,mo];refine pj ?_ g.nodup;intro a b ha J O e;have h1:=g.inr a ha;have h2:=g.inr b J;apply O;have G:a.1.toNat=b.1.toNat:=by have:=congrArg (fun z=>z/y.length) e;rw[vF a.1.toNat,vF b.1.toNat,Nat.mul_add_div (by unfold bZ at*;omega),Nat.mul_add_div (by unfold bZ at*;omega),Ke (by unfold bZ at*;omega),Ke (by unfold bZ at*;omega)]at this;omega
  have Y:a.2.toNat=b.2.toNat:=by rw[G]at e;omega
  unfold bZ at*;exact Prod.ext (by omega) (by omega)
 ·intro n hn;obtain⟨p,hp,rfl⟩:=b6.1 hn;have h1:=g.inr p hp;unfold bZ at h1
  calc p.1.toNat*y.length+p.2.toNat<p.1.toNat*y.length+y.length:=by omega
   _=(p.1.toNat+1)*y.length:=by rw[Nat.add_mul];omega
   _<=x.length*y.length:=Nat.mul_le_mul_right _ (by omega)
theorem oS{x y:List aB}{k:Int×Int->List (Int×Int)}(hx:0<x.length)(hy:0<y.length):Good x y k [(0,0)] 0:=
 ⟨by simp,fun p hp=>by simp only[eR]at hp;subst hp;exact⟨by simp,by simpa using hx,by simp,by simpa using hy⟩,by simp,by simp⟩
theorem pL{x y:List aB}{k:Int×Int->List (Int×Int)}(K:KF x y k){l:List (Int×Int)}{i:Nat}(g:Good x y k l i)(am:i<l.length):Good x y k (l++k l[i]) (i+1):=by
 have G:=g.inr l[i] (by simp);refine⟨?_,?_,?_,by simp;omega⟩
 ·rw[BJ];refine⟨g.nodup,K.nodup _ G,?_⟩;intro a ha b ak e;subst e;obtain⟨h1,h2,O,Y⟩:=K.inr _ G a ak;rw[g.eq]at ha;rcases List.mem_cons.1 ha with rfl|ha;·unfold bZ at G;simp only at h2;omega
  ·obtain⟨p,hp,aj⟩:=hM.1 ha;obtain⟨j,hj,J⟩:=List.mem_iff_getElem.1 hp;rw[List.getElem_take]at J;rw[List.length_take]at hj;have aG:j<l.length:=by omega
   obtain⟨ao,ax,h7,ab⟩:=K.inr p (g.inr p (by rw[<-J];simp)) a aj;have:l[j]=l[i]:=by rw[J];exact Prod.ext (by rw[<-h7,O]) (by rw[<-ab,Y])
   have:=(List.getElem_inj g.nodup).1 this;omega
 ·intro p hp;rcases xm.1 hp with hp|hp;·exact g.inr p hp
  ·exact(K.inr _ G p hp).1
 ·rw[List.take_append_of_le_length (by omega),j5,aE am];simp only[Option.toList_some,List.flatMap_append,fH,KU,jG];rw[<-List.cons_append,<-g.eq]
def ez(k:Int×Int->List (Int×Int))(budget:Nat):Nat->List (Int×Int)->Nat->Option (List (Int×Int))
 |0,_,_=>none
 |f+1,l,i=>if h:i<l.length then(if(l++k l[i]).length<=budget then ez k budget f (l++k l[i]) (i+1)else none)else some l
theorem pM{k:Int×Int->List (Int×Int)}{budget f:Nat}{l:List (Int×Int)}{i:Nat}(h:i<l.length)(G:(l++k l[i]).length<=budget)(hf:0<f):ez k budget f l i=ez k budget (f-1) (l++k l[i]) (i+1):=by
 obtain⟨f,rfl⟩:∃g,f=g+1:=⟨f-1,by omega⟩
 rw[ez,dif_pos h,if_pos G];rfl
theorem xi{k:Int×Int->List (Int×Int)}{budget f:Nat}{l:List (Int×Int)}{i:Nat}(h:i<l.length)(G:budget<(l++k l[i]).length):ez k budget f l i=none:=by
 cases f with
 |zero=>rfl
 |succ f=>rw[ez,dif_pos h,if_neg (by omega)]
theorem pN{k:Int×Int->List (Int×Int)}{budget f:Nat}{l:List (Int×Int)}{i:Nat}(h:l.length<=i)(hf:0<f):ez k budget f l i=some l:=by
 obtain⟨f,rfl⟩:∃g,f=g+1:=⟨f-1,by omega⟩
 rw[ez,dif_neg (by omega)]
theorem q6{x y:List aB}{k:Int×Int->List (Int×Int)}(K:KF x y k)(budget:Nat):∀(f:Nat) (l:List (Int×Int)) (i:Nat),Good x y k l i->l.length<=budget->budget<f+i->(∃r,ez k budget f l i=some r/\Good x y k r r.length/\r.length<=budget)\/(ez k budget f l i=none/\∃r j,Good x y k r j/\budget<r.length)
 |0,l,i,g,J,hf=>by have:=g.le;omega
 |f+1,l,i,g,J,hf=>by
  by_cases h:i<l.length
  ·by_cases G:(l++k l[i]).length<=budget;·rw[pM h G (by omega)];exact q6 K budget f _ _ (pL K g h) G (by omega)
   ·exact .inr ⟨xi h (by omega),_,_,pL K g h,by omega⟩
  ·have O:i=l.length:=by have:=g.le;omega
   subst O;exact .inl ⟨l,pN (kI _) (by omega),g,J⟩
def fA(x y:List aB)(c:Int)(ds:List Int):List (Int×Int):=(ds.filter fun d=>decide ((nd x c).kind=(nd y d).kind)).map fun d=>(c,d)
def kp(x y:List aB)(p:Int×Int):List (Int×Int):=(nd x p.1).kids.flatMap fun c=>fA x y c (nd y p.2).kids
theorem eK{x:List aB}(hx:WF x){i c:Int}(G:0<=i)(h1:i<x.length)(hc:c∈(nd x i).kids):0<=c/\c<x.length/\i<c/\(nd x c).parent=i:=by
 obtain⟨m,md,h2,rfl,O,J⟩:=hx.b4 i.toNat (nd x i) c (gV G h1) hc
 have hm:m<x.length:=by
  rcases b7 m x.length with h|h;·exact h
  ·rw[gM h]at h2;cases h2
 refine⟨by omega,by omega,by omega,?_⟩;rw[nL h2,J];omega
theorem Lp{x:List aB}(hx:WF x){i:Int}(G:0<=i)(h1:i<x.length):(nd x i).kids.length<=x.length:=by
 have h:=q5 x.length ((nd x i).kids.map Int.toNat) ?_ ?_;·simpa using h
 ·rw[ph,mo];refine pj ?_ (hx.gU i.toNat _ (gV G h1));intro a b ha J O e;have:=eK hx G h1 ha;have:=eK hx G h1 J;omega
 ·intro n hn;obtain⟨c,hc,rfl⟩:=b6.1 hn;have:=eK hx G h1 hc;omega
theorem q7{x y:List aB}(hx:WF x)(hy:WF y):KF x y (kp x y):=by
 refine⟨?_,?_⟩;·intro p hp q G;obtain⟨c,hc,G⟩:=hM.1 G;obtain⟨d,hd,rfl⟩:=b6.1 G;have hd:=(lz.1 hd).1;obtain⟨Y,ab,aj,ak⟩:=eK hx hp.1 hp.2.1 hc;obtain⟨b1,b2,b3,ax⟩:=eK hy hp.2.2.1 hp.2.2.2 hd;exact⟨⟨Y,ab,b1,b2⟩,aj,ak,ax⟩
 ·intro p hp;have am:=hx.gU p.1.toNat _ (gV hp.1 hp.2.1);have ao:=hy.gU p.2.toNat _ (gV hp.2.2.1 hp.2.2.2);unfold kp;refine xh (fun c _=> ?_) ?_;·unfold fA;rw[ph,mo];refine pk ?_ (vM _ ao);intro a b aG e;simp only[jg,true_and]at e;omega
  ·refine pk ?_ am;intro a b aG q J O;simp only[fA,b6,lz]at J O;obtain⟨d,_,rfl⟩:=J;obtain⟨d',_,e⟩:=O;simp only[jg]at e;omega
def fB(x y:List aB)(budget:Int):Option (List (Int×Int)):=
 if budget<1 then none else ez (kp x y) budget.toNat (budget.toNat+1) [(0,0)] 0
def DN(h:Hp)(w:World)(r:Option (List (Int×Int)))(e:Ending)(w':World):Prop:=
 ∃h',St w.heap.size h w h' w'/\match r with
  |none=>e= .returned (bD #[ag none 0 0,.bool false])
  |some l=>∃v,e= .returned (bD #[v,.bool true])/\jp h' v (cq l)
theorem xq(l:List (Int×Int))(p:Int×Int):(l++[p]).flatMap bV=l.flatMap bV++bV p:=by simp
theorem DO(x y:List aB)(c d:Int)(ds:List Int):fA x y c (d::ds)=(if(nd x c).kind=(nd y d).kind then[(c,d)]else[])++fA x y c ds:=by unfold fA;by_cases h:(nd x c).kind=(nd y d).kind<;>simp[h]
theorem gy.gA{h:Hp}{v:Value}{x:List aB}(hv:gy h v x)(hp:0<x.length):∃b off O,v=ag (some ⟨b,off,none⟩) x.length O/\x.length<=140737488355328/\
  ∀w,ao h w->b<w.heap.size/\∀i:Int,0<=i->i<x.length->∃J ck,w.cell? ⟨b,off+i.toNat*5,none⟩=some (af ae (nd x i).kind)/\w.cell? ⟨b,off+i.toNat*5+1,none⟩=some (.string (nd x i).text)/\
   w.cell? ⟨b,off+i.toNat*5+2,none⟩=some (af ae (nd x i).parent)/\w.cell? ⟨b,off+i.toNat*5+3,none⟩=some (ag J (nd x i).kids.length ck)/\w.cell? ⟨b,off+i.toNat*5+4,none⟩=some (af ae (nd x i).size)/\
   Ints h (ag J (nd x i).kids.length ck) (nd x i).kids/\aG (nd x i).kind/\aG (nd x i).parent/\aG (nd x i).size:=by
 obtain⟨cs,s,e⟩:=hv;obtain⟨a,O,rfl,hn⟩:=s.shape;have hs:=s;obtain⟨a',aO,he,h1,h2,Y⟩:=hs;simp only[bU,true_and]at he;obtain⟨rfl,rfl⟩:=he;rcases Y with Y|⟨b,off,c,rfl,ax,hc⟩;·omega
 refine⟨b,off,O,rfl,hn,fun w aj=>⟨cD (aj b c ax),fun i am h1=> ?_⟩⟩;obtain⟨b',aQ,ab,aP,G⟩:=s.cells aj hp;simp only[aC,cx,and_true]at ab;obtain⟨rfl,rfl⟩:=ab;obtain⟨c5,g1,g2⟩:=e.at 5 kM.len i.toNat (by omega);have aJ:x[i.toNat]=nd x i:=by have:=gV am h1;rw[aE (by omega)]at this;exact aU this
 rw[aJ]at g1;obtain⟨J,ck,rfl,aL,aM,aN,ak⟩:=g1;refine⟨J,ck,?_,?_,?_,?_,?_,ak,aL,aM,aN⟩;·exact G _ _ (g2 0 (by omega))
 ·rw[bP];exact G _ _ (g2 1 (by omega))
 ·rw[bP];exact G _ _ (g2 2 (by omega))
 ·rw[bP];exact G _ _ (g2 3 (by omega))
 ·rw[bP];exact G _ _ (g2 4 (by omega))
def lO(w:World)(h:Hp)(B:Nat)(v:Value)(l:List (Int×Int)):Prop:=Ow w h B 79 2 v l.length (l.flatMap bV)
theorem lO.open{w:World}{h:Hp}{B:Nat}{v:Value}{l:List (Int×Int)}(o:lO w h B v l)(i:Nat)(O:i<l.length):∃g G,v=ag (some ⟨g,0,none⟩) l.length G/\B<=g/\g<w.heap.size/\h g=none/\w.cell? ⟨g,i*2,none⟩=some (af ae l[i].1)/\w.cell? ⟨g,i*2+1,none⟩=some (af ae l[i].2):=by obtain⟨a,G,rfl⟩:=Ow.shape o;obtain⟨g,rfl,h1,h2,Y,J,_⟩:=Ow.cell o (by omega);exact⟨g,G,rfl,h1,h2,Y,J _ _ (mE l i O).1,J _ _ (mE l i O).2⟩
structure KV(h:Hp)(w wb:World)(g:Nat)(v:Value)(m:List (Int×Int))(w2:World):Prop where
 st:St w.heap.size h w h w2
 own:lO w2 h w.heap.size v m
 grown:wb.grownBy w2 (some g)
 bi:v.ownBlock=some g\/∃k,v.ownBlock=some k/\wb.heap.size<=k
theorem KV.KZ{h:Hp}{w J:World}{g:Nat}{v:Value}{m:List (Int×Int)}{w2:World}(r:KV h w J g v m w2){X:Obj}{p:Int×Int}{v':Value}{w3:World}(st:St w.heap.size h w h w3)(own:Ow w3 h w.heap.size 79 2 v' (m.length+1) (m.flatMap bV++bV p))(gr:(w2.alloc X).grownBy w3 v.ownBlock)(bk:v'.ownBlock=v.ownBlock\/v'.ownBlock=some (w2.alloc X).heap.size):KV h w J g v' (m++[p]) w3:=by
 refine⟨st,?_,kc (mD r.grown X) gr (fun k G=> ?_),?_⟩;·unfold lO;rw[xq];simpa using own
 ·rcases r.bi with b|⟨k',b,O⟩;·rw[b]at G;exact .inl G
  ·rw[b]at G;simp only[aC]at G;subst G;exact .inr O
 ·rcases bk with b|b;·rw[b];exact r.bi
  ·exact .inr ⟨_,b,by have:=r.grown.size;simp;omega⟩
theorem KV.drewN{h:Hp}{w G:World}{g:Nat}{v:Value}{m:List (Int×Int)}{w2:World}(r:KV h w G g v m w2)(n:Nat):KV h w G g v m (w2.drewN n):=
 ⟨r.st.drewN n,r.own.drewN n,⟨r.grown.os,r.grown.tape,r.grown.output,r.grown.size,r.grown.block⟩,r.bi⟩
theorem DP(h:Hp)(w:World)(aL:ao h w)(bY b0:Value)(x y:List aB)(budget:Int)(aQ:aG budget)(hx:gy h bY x)(hy:gy h b0 y)(aV:WF x)(aX:WF y)(ab:(nd x 0).kind=(nd y 0).kind)(c6:x.length<=262144)(c8:y.length<=262144):Calls ai 105 #[bY,b0,af ae budget] w (DN h w (fB x y budget)):=by
 obtain⟨bx,eB,dT,rfl,eo,bN⟩:=hx.gA aV.pos;obtain⟨dB,eC,dU,rfl,er,bO⟩:=hy.gA aX.pos;have a5:=aa (fun w' aL=>bN w' aL);have aY:=aa (fun w' aL=>bO w' aL);have aN:=aa aL;have cn:=aa (q7 aV aX);have cz:=aa aV;have cA:=aa aX;have cV:=aV.pos;have cX:=aX.pos;have ep:x.length*y.length<=262144*262144:=Nat.mul_le_mul c6 c8;have cd:=aa (oS (k:=kp x y) cV cX);unfold aG at aQ;clear hx hy bN bO aV aX;obtain⟨dk,ck,b9,-⟩:=(a5.out w aN.out).2 0 (by omega) (by omega);obtain⟨dm,dD,cc,-⟩:=(aY.out w aN.out).2 0 (by omega) (by omega);simp only[Int.toNat_zero,Nat.zero_mul,Nat.add_zero]at b9 cc;have cG:((nd x 0).kind !=(nd y 0).kind)=false:=by simp[ab]
 have dg:=aa ab;clear ab aL;by_cases a1:budget<1;·go_in;go_wp2_with fail;go_quiet(fail);go_wp2_with fail;go_ret2;exact⟨h,(St.refl aN.out).drewN _,by rw[fB,if_pos a1];rfl⟩
 have bz:1<=budget:=by omega
 have ch:Hid (ez (kp x y) budget.toNat (budget.toNat+1-0) [(0,0)] 0=fB x y budget):=by unfold Hid;rw[fB,if_neg a1];rfl
 have a1:decide (budget<1)=false:=by simpa using bz
 go_in;go_wp2_with fail;go_quiet(fail);go_wp2_with fail;clear b9 cc cG a1;go_loopw[8,9] (fun v i wr=>∃(j:Nat) (l:List (Int×Int)),i=af ae j/\St w.heap.size h w h wr/\lO wr h w.heap.size v l/\Good x y (kp x y) l j/\(l.length:Int)<=budget/\Hid (ez (kp x y) budget.toNat (budget.toNat+1-j) l j=fB x y budget)) (fun _ i _=>budget.toNat-(intOf i).toNat);case atStart=>exact⟨0,[(0,0)],rfl,((St.refl aN.out).drewN _).alloc _,oP (w:=w.drewN _) aN.out (kI _) [af ae 0,af ae 0] 1 2 79 (by simp[maxLen]) rfl,cd.out,by simpa using bz,ch⟩
 case round=>
  obtain⟨ak,rfl⟩:∃ak:World,ak=wr:=⟨_,rfl⟩
  obtain⟨j,l,rfl,S,O,am,cM,R⟩:=hrel;have ei:=am.le;have em:=am.len;by_cases a4:j<l.length
  ·obtain⟨g,cB,rfl,ea,eb,ec,dC,c1⟩:=O.open j a4;obtain⟨bS,bT,bd,bg⟩:=am.inr l[j] (by simp);have bm:=aa (pL cn.out am a4);have cl:Hid (l++kp x y l[j]=l++(nd x l[j].1).kids.flatMap fun c=>fA x y c (nd y l[j].2).kids):=rfl;have ci:=aa (fun aQ hf=>pM (k:=kp x y) (budget:=budget.toNat) (f:=budget.toNat+1-j) a4 aQ hf);have cj:=aa (fun aQ=>xi (k:=kp x y) (budget:=budget.toNat) (f:=budget.toNat+1-j) a4 aQ);generalize l[j]=p at*;obtain⟨d5,aT⟩:=a5.out ak S.I;obtain⟨d7,aj⟩:=aY.out ak S.I;obtain⟨dn,dE,-,-,-,dX,-,a9,-⟩:=aT p.1 bS bT;obtain⟨dr,dG,-,-,-,dY,-,ba,-⟩:=aj p.2 bd bg;have ek:=a9.1.len.1;have el:=ba.1.len.1;have S':=aa S;have co:=aa O;have c9:=aa am;have cf:=aa a9;have dh:=aa ba;clear aT aj S O am a9 ba;have d2:=bm.out.len;generalize bv:l++kp x y p=T at*;have di:=aa bv;clear bv;have cv:Hid (KV h w (ak.alloc (au #[af ae p.1,af ae p.2] 79)) g (ag (some ⟨g,0,none⟩) l.length cB) l (ak.alloc (au #[af ae p.1,af ae p.2] 79))):=⟨S'.out.alloc _,co.out.alloc _,kC _ _,.inl rfl⟩
   go_wp2_with fail;go_loopw[8,47] (fun v i w2=>∃(G:Nat) (m:List (Int×Int)),G<=(nd x p.1).kids.length/\i=af ae G/\KV h w (ak.alloc (au #[af ae p.1,af ae p.2] 79)) g v m w2/\(m.length:Int)<=budget/\Hid (m++((nd x p.1).kids.drop G).flatMap (fun c=>fA x y c (nd y p.2).kids)=T)) (fun _ i _=>(nd x p.1).kids.length-(intOf i).toNat);case atStart=>exact⟨0,l,aW _,rfl,cv,cM,cl.out.symm⟩
   case round=>
    obtain⟨w2,rfl⟩:∃w2:World,w2=wr:=⟨_,rfl⟩
    obtain⟨G,m,ed,rfl,Y,bJ,RT⟩:=hrel;obtain⟨dv,dQ,rfl⟩:=Ow.shape Y.own;have cD:=Lj Y.grown (fun k ab=>by simp only[aC]at ab;omega) 1;simp only[List.getElem?_toArray,List.getElem?_cons_succ,bc]at cD;by_cases bH:G<(nd x p.1).kids.length
    ·obtain⟨dp,dF,bC,-,a2⟩:=cf.out.open;simp only[bU,true_and]at bC;obtain⟨rfl,rfl⟩:=bC;obtain⟨dw,ey,rfl,d3,a2⟩:=a2 w2 Y.st.I (by omega);have dW:=a2 G bH;obtain⟨d8,aj⟩:=aY.out w2 Y.st.I;obtain⟨dt,dN,-,-,-,dZ,-,bE,-⟩:=aj p.2 bd bg;have cg:=aa bE;have bA:Hid ((nd x p.1).kids[G]∈(nd x p.1).kids):=by unfold Hid;simp
     have hdr:Hid ((nd x p.1).kids.drop G=(nd x p.1).kids[G]::(nd x p.1).kids.drop (G+1)):=jh bH;generalize cE:(nd x p.1).kids[G]=c at*;obtain⟨cY,cZ,-,-⟩:=eK cz.out bS bT bA.out;have aP:Hid (m++fA x y c ((nd y p.2).kids.drop 0)++((nd x p.1).kids.drop (G+1)).flatMap (fun c=>fA x y c (nd y p.2).kids)=T):=by have:=RT.out;rw[hdr.out,fH,<-fI]at this;exact this
     have ct:=aa Y;clear aj bE a2 cE Y bA hdr RT;go_wp2_with fail;go_loopw[8,58] (fun v i wr=>∃(J:Nat) (m:List (Int×Int)),J<=(nd y p.2).kids.length/\i=af ae J/\KV h w (ak.alloc (au #[af ae p.1,af ae p.2] 79)) g v m wr/\(m.length:Int)<=budget/\Hid (m++fA x y c ((nd y p.2).kids.drop J)++((nd x p.1).kids.drop (G+1)).flatMap (fun c=>fA x y c (nd y p.2).kids)=T)) (fun _ i _=>(nd y p.2).kids.length-(intOf i).toNat);case atStart=>exact⟨0,m,aW _,rfl,ct.out,bJ,aP⟩
     case round=>
      obtain⟨J,n,ej,rfl,ax,bL,a8⟩:=hrel;obtain⟨an,dR,rfl⟩:=Ow.shape ax.own;by_cases bI:J<(nd y p.2).kids.length
      ·obtain⟨du,dO,bG,-,a3⟩:=cg.out.open;simp only[bU,true_and]at bG;obtain⟨rfl,rfl⟩:=bG;obtain⟨dA,eA,rfl,d4,a3⟩:=a3 wr ax.st.I (by omega);have dd:=a3 J bI;have bB:Hid ((nd y p.2).kids[J]∈(nd y p.2).kids):=by unfold Hid;simp
       have hdr:Hid ((nd y p.2).kids.drop J=(nd y p.2).kids[J]::(nd y p.2).kids.drop (J+1)):=jh bI;generalize cF:(nd y p.2).kids[J]=d at*;obtain⟨r1,r2,-,-⟩:=eK cA.out bd bg bB.out;obtain⟨d6,aT⟩:=a5.out wr ax.st.I;obtain⟨d9,aj⟩:=aY.out wr ax.st.I;obtain⟨-,-,tC,-⟩:=aT c cY cZ;obtain⟨-,-,d1,-⟩:=aj d r1 r2;have aJ:=a8.out;rw[hdr.out,DO]at aJ;have aO:=aa ax;clear aT aj a3 cF ax bB hdr a8;by_cases aM:(nd x c).kind=(nd y d).kind
       ·rw[if_pos aM]at aJ;have g1:=Lm aM;have aZ:Hid ((n++[(c,d)])++fA x y c ((nd y p.2).kids.drop (J+1))++((nd x p.1).kids.drop (G+1)).flatMap (fun c=>fA x y c (nd y p.2).kids)=T):=by unfold Hid;simpa only[fI]using aJ
        have en:n.length+1<=T.length:=by rw[<-aZ.out];simp
        clear aM aJ;by_cases aS:(n.length:Int)=budget
        ·have g2:=kO aS;have ce:Hid ((n.length:Int)=budget):=aS;clear aS;go_wp2_with fail;go_quiet(fail);go_wp2_with fail;go_ret2;refine⟨h,aO.out.st.drewN _,?_⟩;have:fB x y budget=none:=by rw[<-R.out];exact cj.out (by have:=ce.out;omega)
         rw[this];rfl
        ·have g2:=kK aS;have cC:(n.length:Int)+1<=budget:=by omega
         clear aS;go_wp2_with fail;go_quiet(fail);go_wp2_with(at_builtin;refine ft q3 rfl _ _ rfl ((aO.out.st.drewN _).alloc _) _ n.length _ rfl ((aO.out.own.drewN _).alloc _) ⟨_,0,none⟩ 1 1 (bV (c,d)) rfl rfl (cK _ _ _ _ (by simp)) (cm _ rfl) (by omega) ?_;intro eD w3 bX bR bq bp);have cu:=aa ((aO.out.drewN _).KZ bX bR bq bp);clear bX bR bq bp;go_roundw;case rel=>exact⟨J+1,n++[(c,d)],by omega,by go_num,cu.out,by simpa using cC,aZ⟩
         case measure=>simp[intOf];omega
       ·rw[if_neg aM]at aJ;have g1:=q0 aM;have aZ:Hid (n++fA x y c ((nd y p.2).kids.drop (J+1))++((nd x p.1).kids.drop (G+1)).flatMap (fun c=>fA x y c (nd y p.2).kids)=T):=by unfold Hid;simpa using aJ
        clear aM aJ;go_wp2_with fail;go_quiet(fail);go_wp2_with fail;go_roundw;case rel=>exact⟨J+1,n,by omega,by go_num,aO.out.drewN _,bL,aZ⟩
        case measure=>simp[intOf];omega
      ·obtain rfl:J=(nd y p.2).kids.length:=by omega
       go_wp2_with fail;go_roundw;case rel=>exact⟨G+1,n,by omega,by go_num,ax,bL,by unfold Hid;have:=a8.out;rw[K2]at this;simpa[fA]using this⟩
       case measure=>simp[intOf];omega
    ·obtain rfl:G=(nd x p.1).kids.length:=by omega
     have aP:=RT.out;rw[K2]at aP;simp only[KU,jG]at aP;subst aP;go_wp2_with fail;go_roundw;case rel=>exact⟨j+1,m,by go_num,Y.st,Y.own,bm.out,bJ,by unfold Hid;rw[<-R.out,ci.out (by omega) (by omega)];congr 1⟩
     case measure=>simp[intOf];omega
  ·obtain rfl:j=l.length:=by omega
   obtain⟨al,dP,rfl⟩:=Ow.shape O;go_wp2_with fail;refine(tA h _ S.I w.heap.size _ l (by omega) O).mono ?_;rintro e eE ⟨rfl,gr,own⟩;have cw:=aa (S.grown gr (fun k ab=>⟨(O.lt k ab).1,O.free k ab⟩));have cU:=aa own;have hR:Hid (fB x y budget=some l):=by unfold Hid;rw[<-R.out];exact pN (kI _) (by omega)
   clear gr own O S R;go_wp2_with fail;go_ret2;refine⟨_,cw.out.fr,?_⟩;rw[hR.out];have cS:(cq l).length=l.length:=List.length_mergeSort _;refine⟨_,rfl,?_,?_⟩;·rw[cS];exact cU.out.sl (by omega)
   ·intro q cN;have cQ:q∈l:=(List.mergeSort_perm l _).mem_iff.1 cN;have:=am.inr q cQ;unfold bZ at this;unfold aG;omega
def bL(x:List aB)(i:Int):List Int:=(nd x i).kids.map fun c=>(nd x c).size
def eA(x y:List aB)(p:Int×Int)(dm:Int×Int->Int):List (List Int):=
 (nd x p.1).kids.map fun c=>(nd y p.2).kids.map fun k=>if(nd x c).kind=(nd y k).kind then dm (c,k)else-1
def hE(w:World)(h:Hp)(B:Nat)(v:Value)(l:List Int):Prop:=Ow w h B 3 1 v l.length (l.map (af ae))
theorem hE.snoc{w:World}{h:Hp}{B:Nat}{v:Value}{l:List Int}{z:Int}(o:Ow w h B 3 1 v (l.length+1) (l.map (af ae)++[af ae z])):hE w h B v (l++[z]):=by unfold hE;rw[gO,cI];exact o
theorem q8{α G:Type}(f:α->G)(l:List α)(j:Nat)(h:j<l.length):(l.take (j+1)).map f=(l.take j).map f++[f l[j]]:=by rw[j5,aE h,gO];rfl
structure mI(h:Hp)(w:World)(h':Hp)(w':World)(v:Value)(l:List Int):Prop where
 st:St w.heap.size h w h' w'
 ints:Ints h' v l
theorem mI.mk'{h:Hp}{w w':World}{v:Value}{l:List Int}(S:St w.heap.size h w h w')(G:hE w' h w.heap.size v l)(J:l.length<=140737488355328)(hr:∀q∈l,aG q):mI h w (h.fr w.heap.size w') w' v l:=
 ⟨S.fr,Ow.sl G J,hr⟩
def DU(h:Hp)(w:World)(drop add:List Int)(cost:List (List Int))(e:Ending)(w':World):Prop:=
 ∃v1 v2 v3,e= .returned (bD #[v1,v2,v3])/\∃h',St w.heap.size h w h' w'/\Ints h' v1 drop/\Ints h' v2 add/\gP h' v3 cost
theorem DV(h:Hp)(w:World)(aT:ao h w)(cQ cS:Value)(x y:List aB)(p:Int×Int)(r:Nat)(l:List ((Int×Int)×Value))(Y:Int×Int->Int)(hx:gy h cQ x)(hy:gy h cS y)(bB:WF x)(bC:WF y)(eH:x.length<=262144)(eI:y.length<=262144)(hp:bZ x y p)(hm:fy w r l)(cq:∀q,(fT l q).getD (af ae 0)=af ae (Y q)/\aG (Y q)):Calls ai 148 #[cQ,cS,.agg #[af ae p.1,af ae p.2],.map (some r)] w (DU h w (bL x p.1) (bL y p.2) (eA x y p Y)):=by
 obtain⟨bx,eF,d6,rfl,ez,cF⟩:=hx.gA bB.pos;obtain⟨dY,eG,d7,rfl,eB,cG⟩:=hy.gA bC.pos;have a4:=aa (fun w' aT=>cF w' aT);have a5:=aa (fun w' aT=>cG w' aT);have a2:=aa aT;have bI:=aa bB;have bJ:=aa bC;have bY:=aa hm;have bX:=aa cq;obtain⟨aX,aY,aZ,a1⟩:=hp;have dG:(nd x p.1).kids.length<=262144:=by have:=Lp bB aX aY;omega
 have dN:(nd y p.2).kids.length<=262144:=by have:=Lp bC aZ a1;omega
 clear hx hy cF cG bB bC hm cq aT;obtain⟨ek,J⟩:=a4.out w a2.out;obtain⟨dO,dZ,-,-,-,d9,-,cv,-⟩:=J p.1 aX aY;clear J;have cX:=aa cv;clear cv;go_in;go_wp2_with fail;go_loopw[8,27] (fun v i wr=>∃(j:Nat),j<=(nd x p.1).kids.length/\i=af ae j/\St (w.heap.size+1) h (w.alloc (au #[af ae p.1,af ae p.2] 79)) h wr/\hE wr h (w.heap.size+1) v (((nd x p.1).kids.take j).map fun c=>(nd x c).size)) (fun _ i _=>(nd x p.1).kids.length-(intOf i).toNat);case atStart=>exact⟨0,aW _,rfl,St.dN (a2.out.alloc _) (by simp),by simpa[hE]using Ow.nil _ _ _ _ _⟩
 case round=>
  obtain⟨j,hj,rfl,S,O⟩:=hrel;obtain⟨ce,ch,rfl⟩:=Ow.shape O;have S':=aa S;have a8:=aa O;have aP:=aa S.I;by_cases aM:j<(nd x p.1).kids.length
  ·obtain⟨cd,cg,aL,-,G⟩:=cX.out.open;simp only[bU,true_and]at aL;obtain⟨rfl,rfl⟩:=aL;obtain⟨cf,cM,rfl,cl,G⟩:=G wr S.I (by omega);have cj:=G j aM;have ax:Hid ((nd x p.1).kids[j]∈(nd x p.1).kids):=by unfold Hid;simp
   have a3:=aa (q8 (fun c=>(nd x c).size) (nd x p.1).kids j aM);generalize bp:(nd x p.1).kids[j]=c at*;obtain⟨aj,ak,-,-⟩:=eK bI.out aX aY ax.out;obtain⟨cn,J⟩:=a4.out wr aP.out;obtain⟨-,-,-,-,-,-,dn,-,-,-,bv⟩:=J c aj ak;clear J G bp ax S O;have cC:(((nd x p.1).kids.take j).map fun c=>(nd x c).size).length<=262144:=by simp;omega
   generalize(((nd x p.1).kids.take j).map fun c=>(nd x c).size)=L at*;go_wp2_with(at_builtin;refine ft fP rfl _ _ rfl (S'.out.alloc _) _ L.length _ rfl (Ow.alloc a8.out _) ⟨_,0,none⟩ 1 1 [af ae (nd x c).size] rfl rfl (cK _ _ _ _ (by simp)) (cm _ rfl) (by omega) ?_;intro bV w3 bS bO dr dk);go_roundw;case rel=>exact⟨j+1,by omega,by go_num,bS,by rw[a3.out];exact hE.snoc bO⟩
   case measure=>simp[intOf];omega
  ·obtain rfl:j=(nd x p.1).kids.length:=by omega
   have hz:(w.alloc (au #[af ae p.1,af ae p.2] 79)).heap.size=w.heap.size+1:=by simp
   have am:hE wr h (w.heap.size+1) (ag ce (nd x p.1).kids.length ch) (bL x p.1):=by have:=O;simp only[cP,dL]at this;exact this
   have ba:mI h (w.alloc (au #[af ae p.1,af ae p.2] 79)) (h.fr (w.heap.size+1) wr) wr (ag ce (nd x p.1).kids.length ch) (bL x p.1):=by
    have:=mI.mk' (w:=w.alloc (au #[af ae p.1,af ae p.2] 79)) (by rw[hz];exact S) (by rw[hz];exact am) (by simp only[bL,dL];omega) (by intro q bq;obtain⟨c,hc,rfl⟩:=b6.1 bq;obtain⟨aj,ak,-,-⟩:=eK bI.out aX aY hc;obtain⟨-,J⟩:=a4.out w a2.out;obtain⟨-,-,-,-,-,-,-,-,-,-,bv⟩:=J c aj ak;exact bv)
    rw[hz]at this;exact this
   obtain⟨w1,rfl⟩:∃w1:World,w1=wr:=⟨_,rfl⟩
   generalize h.fr (w.heap.size+1) w1=h1 at*;have cE:w.heap.size<w1.heap.size:=by have:=ba.st.below.size;rw[hz]at this;omega
   have k1:w1.cell? ⟨w.heap.size,1,none⟩=some (af ae p.2):=by rw[ba.st.below.cell (by simp),cJ _ _ _ _ rfl];rfl
   have bH:Hid (St w.heap.size h w h1 w1):=((St.refl a2.out).alloc _).call ba.st;obtain⟨em,aN⟩:=a5.out w1 bH.out.gq;obtain⟨dQ,d2,-,-,-,ea,-,cz,-⟩:=aN p.2 aZ a1;have cZ:=aa cz;have bG:=aa ba;clear aN cz ba S O am hz;simp only[cP,dL];go_wp2_with fail;go_loopw[9,47] (fun v i wr=>∃(j:Nat),j<=(nd y p.2).kids.length/\i=af ae j/\St w1.heap.size h1 w1 h1 wr/\hE wr h1 w1.heap.size v (((nd y p.2).kids.take j).map fun c=>(nd y c).size)) (fun _ i _=>(nd y p.2).kids.length-(intOf i).toNat);case atStart=>exact⟨0,aW _,rfl,St.refl bG.out.st.I,by simpa[hE]using Ow.nil _ _ _ _ _⟩
   case round=>
    obtain⟨j,hj,rfl,S,O⟩:=hrel;obtain⟨an,ci,rfl⟩:=Ow.shape O;have S':=aa S;have a8:=aa O;have aP:Hid (ao h wr):=fun b c hc=>S.I b c (bH.out.le b c hc);by_cases aM:j<(nd y p.2).kids.length
    ·obtain⟨cd,cg,aL,-,G⟩:=cZ.out.open;simp only[bU,true_and]at aL;obtain⟨rfl,rfl⟩:=aL;obtain⟨cf,cM,rfl,cl,G⟩:=G wr aP.out (by omega);have cj:=G j aM;have ax:Hid ((nd y p.2).kids[j]∈(nd y p.2).kids):=by unfold Hid;simp
     have a3:=aa (q8 (fun c=>(nd y c).size) (nd y p.2).kids j aM);generalize bp:(nd y p.2).kids[j]=c at*;obtain⟨aj,ak,-,-⟩:=eK bJ.out aZ a1 ax.out;obtain⟨cn,J⟩:=a5.out wr aP.out;obtain⟨-,-,-,-,-,-,dn,-,-,-,bv⟩:=J c aj ak;clear J G bp ax S O;have cC:(((nd y p.2).kids.take j).map fun c=>(nd y c).size).length<=262144:=by simp;omega
     generalize(((nd y p.2).kids.take j).map fun c=>(nd y c).size)=L at*;go_wp2_with(at_builtin;refine ft fP rfl _ _ rfl (S'.out.alloc _) _ L.length _ rfl (Ow.alloc a8.out _) ⟨_,0,none⟩ 1 1 [af ae (nd y c).size] rfl rfl (cK _ _ _ _ (by simp)) (cm _ rfl) (by omega) ?_;intro bV w3 bS bO dr dk);go_roundw;case rel=>exact⟨j+1,by omega,by go_num,bS,by rw[a3.out];exact hE.snoc bO⟩
     case measure=>simp[intOf];omega
    ·obtain rfl:j=(nd y p.2).kids.length:=by omega
     have am:hE wr h1 w1.heap.size (ag an (nd y p.2).kids.length ci) (bL y p.2):=by have:=O;simp only[cP,dL]at this;exact this
     have aQ:mI h1 w1 (h1.fr w1.heap.size wr) wr (ag an (nd y p.2).kids.length ci) (bL y p.2):=
      mI.mk' S am (by simp only[bL,dL];omega) (by intro q bq;obtain⟨c,hc,rfl⟩:=b6.1 bq;obtain⟨aj,ak,-,-⟩:=eK bJ.out aZ a1 hc;obtain⟨-,J⟩:=a5.out w a2.out;obtain⟨-,-,-,-,-,-,-,-,-,-,bv⟩:=J c aj ak;exact bv)
     obtain⟨w2,rfl⟩:∃w2:World,w2=wr:=⟨_,rfl⟩
     generalize h1.fr w1.heap.size w2=h2 at*;have aO:Hid (St w.heap.size h w h2 w2):=bH.out.call aQ.st;have dA:w.heap.size<w2.heap.size:=by have:=aQ.st.below.size;omega
     have eC:w2.cell? ⟨w.heap.size,0,none⟩=some (af ae p.1):=by rw[aQ.st.below.cell cE,bG.out.st.below.cell (by simp),cJ _ _ _ _ rfl];rfl
     have k2:Hid (w2.cell? ⟨w.heap.size,1,none⟩=some (af ae p.2)):=by unfold Hid;rw[aQ.st.below.cell cE];exact k1
     obtain⟨cn,J⟩:=a4.out w2 aO.out.gq;obtain⟨dP,d1,-,-,-,eb,-,cw,-⟩:=J p.1 aX aY;have cY:=aa cw;have b9:=aa aQ;clear J cw aQ S O am k1;simp only[cP,dL];go_wp2_with fail;go_loopw[10,67] (fun v i wr=>∃(j:Nat) (hj:Hp) (vs:List Value),j<=(nd x p.1).kids.length/\i=af ae j/\St w2.heap.size h2 w2 hj wr/\Ow wr hj w2.heap.size 34 1 v j vs/\aJ (io hj) (((nd x p.1).kids.take j).map fun c=>(nd y p.2).kids.map fun k=>if(nd x c).kind=(nd y k).kind then Y (c,k)else-1) vs) (fun _ i _=>(nd x p.1).kids.length-(intOf i).toNat);case atStart=>exact⟨0,h2,[],aW _,rfl,St.refl aO.out.I,Ow.nil _ _ _ _ _,by simp[aJ]⟩
     case round=>
      obtain⟨ab,rfl⟩:∃ab:World,ab=wr:=⟨_,rfl⟩
      obtain⟨j,hj,vs,ep,rfl,S,O,E⟩:=hrel;obtain⟨dU,d5,rfl⟩:=Ow.shape O;have S':=aa S;have a8:=aa O;have cU:=aa E;have aP:Hid (ao h ab):=fun b c hc=>S.I b c (S.le b c (aO.out.le b c hc));by_cases aM:j<(nd x p.1).kids.length
      ·obtain⟨cd,cg,aL,-,G⟩:=cY.out.open;simp only[bU,true_and]at aL;obtain⟨rfl,rfl⟩:=aL;obtain⟨cf,cM,rfl,cl,G⟩:=G ab aP.out (by omega);have cj:=G j aM;have ax:Hid ((nd x p.1).kids[j]∈(nd x p.1).kids):=by unfold Hid;simp
       have a3:=aa (q8 (fun c=>(nd y p.2).kids.map fun k=>if(nd x c).kind=(nd y k).kind then Y (c,k)else-1) (nd x p.1).kids j aM);generalize bp:(nd x p.1).kids[j]=c at*;obtain⟨aj,ak,-,-⟩:=eK bI.out aX aY ax.out;clear G bp ax S O E;have dB:w.heap.size<ab.heap.size:=by have:=S'.out.below.size;omega
       have dC:ab.cell? ⟨w.heap.size,1,none⟩=some (af ae p.2):=by rw[S'.out.below.cell dA];exact k2.out
       go_wp2_with(at_make;refine CV fP rfl _ _ rfl (St.refl S'.out.I) ae ae _ (nd y p.2).kids.length rfl rfl (by go_num) (by omega) ?_;intro w3 bA cN dt;have eD:w3.cell? ⟨w.heap.size,1,none⟩=some (af ae p.2):=(by rw[bA.below.cell dB];exact dC);have dp:=(a5.out w3 (fun b c hc=>bA.I b c (S'.out.le b c (aO.out.le b c hc))));obtain⟨en,aN⟩:=dp;obtain⟨dT,d4,-,-,-,ed,-,cA,-⟩:=aN p.2 aZ a1;have c6:=aa cA;have di:=aa bA;have c9:=aa cN;clear aN cA bA cN dt);go_loopw[17,81] (fun v i wr=>∃(k:Nat),k<=(nd y p.2).kids.length/\i=af ae k/\St ab.heap.size hj ab hj wr/\hE wr hj ab.heap.size v (((nd y p.2).kids.take k).map fun k=>if(nd x c).kind=(nd y k).kind then Y (c,k)else-1)) (fun _ i _=>(nd y p.2).kids.length-(intOf i).toNat);case atStart=>exact⟨0,aW _,rfl,di.out,by simpa[hE]using c9.out⟩
       case round=>
        obtain⟨k,er,rfl,aS,a9⟩:=hrel;obtain⟨bg,bm,rfl⟩:=Ow.shape a9;have cc:=aa aS;have b0:=aa a9;have bE:Hid (ao h wr):=fun b c hc=>aS.I b c (S'.out.le b c (aO.out.le b c hc));by_cases cD:k<(nd y p.2).kids.length
        ·obtain⟨dR,d3,cB,-,G⟩:=c6.out.open;simp only[bU,true_and]at cB;obtain⟨rfl,rfl⟩:=cB;obtain⟨dX,eE,rfl,ej,G⟩:=G wr bE.out (by omega);have d8:=G k cD;have ct:Hid ((nd y p.2).kids[k]∈(nd y p.2).kids):=by unfold Hid;simp
         have bz:=aa (q8 (fun k=>if(nd x c).kind=(nd y k).kind then Y (c,k)else-1) (nd y p.2).kids k cD);generalize dv:(nd y p.2).kids[k]=d at*;obtain⟨r1,r2,-,-⟩:=eK bJ.out aZ a1 ct.out;obtain⟨el,J⟩:=a4.out wr bE.out;obtain⟨eo,aN⟩:=a5.out wr bE.out;obtain⟨-,-,tC,-⟩:=J c aj ak;obtain⟨-,-,ec,-⟩:=aN d r1 r2;have dw:Hid (wr.heap[r]? =w.heap[r]?):=by have hr:=bY.out.lt;unfold Hid;rw[aS.below.block r (by omega),S'.out.below.block r (by omega)];exact aO.out.below.block r hr
         obtain⟨bN,co⟩:=bX.out (c,d);have cC:(((nd y p.2).kids.take k).map fun k=>if(nd x c).kind=(nd y k).kind then Y (c,k)else-1).length<=262144:=by simp;omega
         generalize(((nd y p.2).kids.take k).map fun k=>if(nd x c).kind=(nd y k).kind then Y (c,k)else-1)=L at*;clear J aN G dv ct aS a9;by_cases aV:(nd x c).kind=(nd y d).kind
         ·rw[if_pos aV]at bz;have g1:=kO aV;have ey:∀nq,(Instr.lookup 217 (.map (some r)) (.agg #[af ae c,af ae d]) false).run ai (wr.drewN nq)= .ok (af ae (Y (c,d))) (wr.drewN nq):=fun nq=>by have:=bY.out.look (c,d) 217 3 (af ae 0) Tryz.underlying217 (fun _=>by kernel_rfl) (wr.drewN nq) dw.out;rw[bN]at this;exact this
          clear aV bN co;go_wp2_with fail;go_quiet(fail);go_wp2_with(at_builtin;refine ft fP rfl _ _ rfl ((cc.out.drewN _).alloc _) _ L.length _ rfl (Ow.alloc (Ow.drewN b0.out _) _) ⟨_,0,none⟩ 1 1 [af ae (Y (c,d))] rfl rfl (cK _ _ _ _ (by simp)) (cm _ rfl) (by omega) ?_;intro bV dF bT bR du dm);go_roundw;case rel=>exact⟨k+1,by omega,by go_num,bT,by rw[bz.out];exact hE.snoc bR⟩
          case measure=>simp[intOf];omega
         ·rw[if_neg aV]at bz;have g1:=kK aV;clear aV bN co;go_wp2_with fail;go_quiet(fail);go_wp2_with(at_builtin;refine ft fP rfl _ _ rfl ((cc.out.drewN _).alloc _) _ L.length _ rfl (Ow.alloc (Ow.drewN b0.out _) _) ⟨_,0,none⟩ 1 1 [af ae (-1)] rfl rfl (cK _ _ _ _ (by simp)) (cm _ rfl) (by omega) ?_;intro bV dF bT bR du dm);go_roundw;case rel=>exact⟨k+1,by omega,by go_num,bT,by rw[bz.out];exact hE.snoc bR⟩
          case measure=>simp[intOf];omega
        ·obtain rfl:k=(nd y p.2).kids.length:=by omega
         have am:hE wr hj ab.heap.size (ag bg (nd y p.2).kids.length bm) ((nd y p.2).kids.map fun k=>if(nd x c).kind=(nd y k).kind then Y (c,k)else-1):=by have:=a9;simp only[cP,dL]at this;exact this
         have bd:mI hj ab (hj.fr ab.heap.size wr) wr (ag bg (nd y p.2).kids.length bm) ((nd y p.2).kids.map fun k=>if(nd x c).kind=(nd y k).kind then Y (c,k)else-1):=
          mI.mk' aS am (by simp only[dL];omega) (by
           intro q bq;obtain⟨d,hd,rfl⟩:=b6.1 bq;split;·exact(bX.out (c,d)).2
           ·unfold aG;omega)
         generalize hj.fr ab.heap.size wr=cu at*;have dh:=aa (S'.out.call bd.st);have c8:=aa (a8.out.call bd.st);have cV:Hid (aJ (io cu) _ vs):=cU.out.mono fun _ _ q=>q.mono bd.st.le;have dg:=aa bd;clear bd aS a9 am;simp only[cP,dL];go_wp2_with(at_builtin;refine ft sZ rfl _ _ rfl (dh.out.alloc _) _ j vs rfl (c8.out.alloc _) ⟨_,0,none⟩ 1 1 [ag bg (nd y p.2).kids.length bm] rfl rfl (cK _ _ _ _ (by simp)) (cm _ rfl) (by omega) ?_;intro eJ eL dE dD ei dW);go_roundw;case rel=>refine⟨j+1,cu,vs++[ag bg (nd y p.2).kids.length bm],by omega,by go_num,dE,dD,?_⟩;rw[a3.out];exact cV.out.append (aJ.one ⟨bg,bm,by simp,by simpa using dg.out.ints⟩)
         case measure=>simp[intOf];omega
      ·obtain rfl:j=(nd x p.1).kids.length:=by omega
       go_wp2_with fail;go_ret3;refine⟨_,_,_,rfl,_,(aO.out.call S).fr,?_,?_,vs,?_,?_⟩;·exact(bG.out.ints.mono b9.out.st.le).mono (Hp.le_trans S.le (Hp.gQ S.I))
       ·exact b9.out.ints.mono (Hp.le_trans S.le (Hp.gQ S.I))
       ·have:=(O.base (B':=w.heap.size) (by omega)).sl (by omega);simpa[eA]using this
       ·have:=E.mono fun _ _ q=>q.mono (Hp.gQ (B:=w.heap.size) S.I);rw[cP]at this;exact this
end Go.Proofs.YtdplggpbgommnaaGreatDoor
