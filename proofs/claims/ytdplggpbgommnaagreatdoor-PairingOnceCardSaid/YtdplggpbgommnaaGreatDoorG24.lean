/- A program whose names are different is paired with itself, whatever its leads are: in plain words. -/
import Derived.Test.YtdplggpbgommnaaGreatDoorG22
import Derived.Test.YtdplggpbgommnaaGreatDoorPno
import Derived.Test.YtdplggpbgommnaaGreatDoorG23
open Go.Addr.mk renaming injEq->cx
open Go.IntKind renaming i64->ae
open Go.Value renaming int->af,slice->ag,string->ah
open Go.Value.slice renaming injEq->bU
open Int renaming toNat_natCast->dy
open List renaming findIdx?_eq_none_iff->Cb,findIdx?_eq_some_iff_getElem->oB,foldl_cons->dK,getD_eq_getElem?_getD->bb,getElem?_append_left->jD,getElem?_cons_succ->bQ,getElem?_eq_getElem->aE,getElem?_map->jB,getElem?_replicate->Mx,getElem?_set_ne->B3,getElem?_set_self->LP,getElem_append_left->mf,getElem_inj->wj,getElem_mem->aK,length_drop->pq,length_take->mb,mem_append->xm,mem_cons_of_mem->cW,mem_cons_self->eu,mem_cons->b8,mem_iff_getElem->ij,mem_singleton->eR,nodup_cons->ny,pairwise_cons->fJ,range->aw,replicate->aA
open List.Pairwise renaming filter->vM,imp->pk,nil->B1
open Nat renaming le_refl->kI,le_succ->my,sub_self->kH,sub_zero->qv
open Option.some renaming injEq->aC,inj->aU
open Prod.mk renaming injEq->jg
namespace Go.Proofs.YtdplggpbgommnaaGreatDoor
open Go.RowKit
theorem zp{x:Int}(h: -9223372036854775808<=x)(h2:x<=9223372036854775807):bS x=x:=by unfold bS wrap64;omega
theorem uR{K α:Type}[DecidableEq K]{l:List (K×α)}{p:K}{k:Nat}(h:bm l p=some k):∃G:k<l.length,(l[k]).1=p/\∀j (hj:j<k),(l[j]'(by omega)).1≠p:=by unfold bm at h;rw[oB]at h;obtain⟨G,h1,h2⟩:=h;exact⟨G,by simpa using h1,fun j hj=>by simpa using h2 j hj⟩
theorem uS{K α:Type}[DecidableEq K]{l:List (K×α)}{p:K}(h:bm l p=none):∀q∈l,q.1≠p:=by unfold bm at h;rw[Cb]at h;exact fun q G=>by simpa using h q G
theorem rR{K α:Type}[DecidableEq K]{l:List (K×α)}{p:K}{k:Nat}(G:k<l.length)(h1:(l[k]).1=p)(h2:∀j (hj:j<k),(l[j]'(by omega)).1≠p):bm l p=some k:=by unfold bm;rw[oB];exact⟨G,by simpa using h1,fun j hj=>by simpa using h2 j hj⟩
theorem zq{K α:Type}[DecidableEq K]{l:List (K×α)}{p:K}(h:∀q∈l,q.1≠p):bm l p=none:=by unfold bm;rw[Cb];exact fun q G=>by simpa using h q G
theorem o5{K α:Type}[DecidableEq K](l:List (K×α))(p q:K)(v:α):aT (aY l p v) q=if q=p then some v else aT l q:=by
 unfold aY;cases hp:bm l p with
 |none=>
  have hn:=uS hp;by_cases e:q=p
  ·subst e;rw[if_pos rfl];have:bm (l++[(q,v)]) q=some l.length:=rR (by simp) (by simp) fun j hj=>by rw[mf hj];exact hn _ (aK hj)
   simp[aT,this]
  ·rw[if_neg e];cases hq:bm l q with
   |none=>
    have Y:=uS hq
    have:bm (l++[(p,v)]) q=none:=zq fun x hx=>by
     rcases xm.1 hx with hx|hx;·exact Y x hx
     ·simp at hx;subst hx;exact fun O=>e O.symm
    simp[aT,this,hq]
   |some k=>
    obtain⟨G,h1,h2⟩:=uR hq;have:bm (l++[(p,v)]) q=some k:=rR (by simp;omega) (by rw[mf G];exact h1) fun j hj=>by rw[mf (by omega)];exact h2 j hj
    simp[aT,this,hq,jD G]
 |some k=>
  obtain⟨G,h1,h2⟩:=uR hp
  have J:∀j (hj:j<(l.set k (p,v)).length),((l.set k (p,v))[j]).1=(l[j]'(by simpa using hj)).1:=fun j hj=>by
   rw[List.getElem_set];split;·rename_i e;subst e;exact h1.symm
   ·rfl
  by_cases e:q=p
  ·subst e;rw[if_pos rfl];have:bm (l.set k (q,v)) q=some k:=rR (by simpa using G) (by simp) fun j hj=>by rw[J];exact h2 j hj
   simp[aT,this,G]
  ·rw[if_neg e];cases hq:bm l q with
   |none=>
    have Y:=uS hq;have:bm (l.set k (p,v)) q=none:=zq fun x hx=>by obtain⟨j,hj,rfl⟩:=ij.1 hx;rw[J];exact Y _ (aK _)
    simp[aT,this,hq]
   |some i=>
    obtain⟨ab,g1,g2⟩:=uR hq;have aj:k≠i:=fun O=>e (by subst O;rw[<-g1,h1]);have:bm (l.set k (p,v)) q=some i:=rR (by simpa using ab) (by rw[J];exact g1) fun j hj=>by rw[J];exact g2 j hj
    simp[aT,this,hq,B3 aj]
def cd(n:Nat)(P:Nat->Bool):List Int:=(aw n).map fun i=>if P i then(i:Int)else-1
theorem qh(n:Nat)(P:Nat->Bool):(cd n P).length=n:=by simp[cd]
theorem zr(n:Nat)(P:Nat->Bool)(i:Nat)(G:i<n):(cd n P).getD i 0=if P i then(i:Int)else-1:=by simp[cd,bb,G]
theorem mX{α:Type}(f:α->Nat->α)(G:Nat->α->Prop)(n:Nat)(a:α)(J:G 0 a)(hs:∀j s,j<n->G j s->G (j+1) (f s j)):G n ((aw n).foldl f a):=by
 induction n with
 |zero=>exact J
 |succ n O=>rw[List.range_succ,List.foldl_append];exact hs n _ (by omega) (O fun j s hj=>hs j s (by omega))
section
variable {K:Type} [DecidableEq K]
end
theorem zw{α:Type}(l:List (List α))(i j m k:Nat)(x d:α)(J:i<l.length)(hj:j<(l.getD i []).length):((eM l i j x).getD m []).getD k d=if m=i/\k=j then x else(l.getD m []).getD k d:=by
 by_cases h:m=i
 ·subst h;rw[p7 l m j x J];by_cases G:k=j;·subst G;rw[if_pos ⟨rfl,rfl⟩,bb,LP hj];rfl
  ·rw[if_neg fun e=>G e.2,bb,B3 fun e=>G e.symm,<-bb]
 ·rw[if_neg fun e=>h e.1,p8 l i j m x h]
section
variable {ck:Int->ByteArray->List Nat->ByteArray}
end
mutual
def Tree.bare:Tree->Tree| .node k s _ ks=> .node k s [] (aN ks)
def aN:List Tree->List Tree
 |[]=>[]
 |t::ts=>t.bare::aN ts
end
theorem iY(ts:List Tree):aN ts=ts.map Tree.bare:=by
 induction ts with
 |nil=>rw[aN];rfl
 |cons a l G=>rw[aN,G];rfl
theorem o8(t:Tree):t.bare.kind=t.kind:=by cases t;rw[Tree.bare];rfl
theorem o9(t:Tree):t.bare.text=t.text:=by cases t;rw[Tree.bare];rfl
theorem rT(t:Tree):t.bare.kids=aN t.kids:=by cases t;rw[Tree.bare];rfl
mutual
theorem l3:∀t:Tree,t.bare.size=t.size
 | .node k s l G=>by rw[Tree.bare,Tree.size,Tree.size,uT G]
theorem uT:∀ts:List Tree,ax (aN ts)=ax ts
 |[]=>by rw[aN]
 |t::ts=>by rw[aN,ax,ax,l3 t,uT ts]
end
def cN(ot nt:List Tree):bp:=⟨aA ot.length (-1),aA nt.length (-1),aA (aj 0 ot).length (-1),aA (aj 0 nt).length (-1),ot.map fun t=>aA t.size false,nt.map fun t=>aA t.size false,nt.map fun t=>aA t.size (-1,0),0,0⟩
def eD(ck:Int->ByteArray->List Nat->ByteArray)(budget:Int)(ot nt:List Tree):bp:=
 lc ck (aj 0 ot) (aj 0 nt) (kw budget ot nt (l4 budget ot nt (l5 ot nt (cN ot nt))))
theorem getD_at{α:Type}{l:List α}{d:α}{i:Nat}(G:i<l.length):l.getD i d=l[i]:=by rw[bb,aE G];rfl
section
variable {ck:Int->ByteArray->List Nat->ByteArray}
end
structure lC(aI new:List Int)(n m:Nat):Prop where
 lo:aI.length=n
 ln:new.length=m
 a:∀i,i<n->0<=aI.getD i 0->∃j:Nat,aI.getD i 0=j/\j<m/\new.getD j 0=i
 b:∀j,j<m->0<=new.getD j 0->∃i:Nat,new.getD j 0=i/\i<n/\aI.getD i 0=j
theorem nA{α:Type}(l:List α)(i k:Nat)(x d:α)(J:i<l.length):(l.set i x).getD k d=if k=i then x else l.getD k d:=by
 by_cases e:k=i;·subst e;rw[if_pos rfl,bb,LP J];rfl
 ·rw[if_neg e,bb,B3 fun G=>e G.symm,<-bb]
theorem lC.set{G new:List Int}{n m i j:Nat}(s:lC G new n m)(ao:i<n)(hj:j<m)(h1:G.getD i 0<0)(h2:new.getD j 0<0):lC (G.set i (j:Int)) (new.set j (i:Int)) n m:=by
 have Y:i<G.length:=by rw[s.lo];exact ao
 have ab:j<new.length:=by rw[s.ln];exact hj
 refine⟨by simp[s.lo],by simp[s.ln],fun k O h=> ?_,fun k O h=> ?_⟩
 ·rw[nA _ _ _ _ _ Y]at h⊢;split at h;·rename_i e;subst e;rw[if_pos rfl];exact⟨j,rfl,hj,by rw[nA _ _ _ _ _ ab,if_pos rfl]⟩
  ·rename_i e;rw[if_neg e];obtain⟨q,aj,ak,am⟩:=s.a k O h;refine⟨q,aj,ak,?_⟩;rw[nA _ _ _ _ _ ab,if_neg fun J=>by subst J;omega];exact am
 ·rw[nA _ _ _ _ _ ab]at h⊢;split at h;·rename_i e;subst e;rw[if_pos rfl];exact⟨i,rfl,ao,by rw[nA _ _ _ _ _ Y,if_pos rfl]⟩
  ·rename_i e;rw[if_neg e];obtain⟨q,aj,ak,am⟩:=s.b k O h;refine⟨q,aj,ak,?_⟩;rw[nA _ _ _ _ _ Y,if_neg fun J=>by subst J;omega];exact am
theorem Bj(n m:Nat):lC (aA n (-1)) (aA m (-1)) n m:=by
 refine⟨by simp,by simp,fun i G h=> ?_,fun i G h=> ?_⟩
 all_goals
  rw[bb,Mx,if_pos G]at h;simp at h
section
variable {K:Type} [DecidableEq K]
structure sU(ok:Nat->Option K)(aI:List Int)(n:Nat)(r:List (K×List Nat)):Prop where
 el:∀k x,x∈(aT r k).getD []->ok x=some k/\x<n/\aI.getD x 0<0
 nd:∀k,((aT r k).getD []).Nodup
theorem Me(ok:Nat->Option K)(G:List Int)(n:Nat):sU ok G n (iK G ok n):=by
 unfold iK;have:=mX (fw G ok) (fun j r=>sU ok G n r/\∀k x,x∈(aT r k).getD []->x<j) n [] ⟨⟨fun k x h=>by(cases h),fun k=>B1⟩,fun k x h=>by cases h⟩ ?_;·exact this.1
 ·intro j r hj ⟨h1,h2⟩;unfold fw;cases hk:ok j with
  |none=>exact⟨h1,fun k x h=>by have:=h2 k x h;omega⟩
  |some a=>
   simp only;split
   ·rename_i J;have hs:∀k,(aT (aY r a ((aT r a).getD []++[j])) k).getD []=if k=a then(aT r a).getD []++[j]else(aT r k).getD []:=fun k=>by rw[o5];split<;>rfl
    refine⟨⟨fun k x h=> ?_,fun k=> ?_⟩,fun k x h=> ?_⟩
    ·rw[hs]at h;split at h
     ·rename_i e;subst e;rcases xm.1 h with h|h;·exact h1.el k x h
      ·obtain rfl:=eR.1 h;exact⟨hk,hj,J⟩
     ·exact h1.el k x h
    ·rw[hs];split;·rename_i e;subst e;rw[List.nodup_append];exact⟨h1.nd k,by simp,fun x hx y hy e=>by have:=h2 k x hx;have:=eR.1 hy;omega⟩
     ·exact h1.nd k
    ·rw[hs]at h;split at h
     ·rcases xm.1 h with h|h;·have:=h2 a x h;omega
      ·have:=eR.1 h;omega
     ·have:=h2 k x h;omega
   ·exact⟨h1,fun k x h=>by have:=h2 k x h;omega⟩
theorem uj{J new:List Int}{n m:Nat}(s:lC J new n m)(ok O:Nat->Option K):lC (dh J new ok O).1 (dh J new ok O).2 n m:=by
 unfold dh;rw[s.lo,s.ln];have:=mX (gx O) (fun _ t=>sU ok t.2.1 n t.1/\lC t.2.1 t.2.2 n m) m (iK J ok n,J,new) ⟨Me ok J n,s⟩ ?_;·exact this.2
 ·rintro j ⟨r,o,w⟩ hj ⟨g,q⟩;simp only at g q;unfold gx;cases O j with
  |none=>exact⟨g,q⟩
  |some k=>
   simp only;split;·exact⟨g,q⟩
   ·rename_i hw;have ge:=g.el k;have gn:=g.nd k;generalize ao:(aT r k).getD []=l at ge gn;cases l with
    |nil=>exact⟨g,q⟩
    |cons i t=>
     obtain⟨ab,Y,aj⟩:=ge i eu;refine⟨⟨fun k2 x hx=> ?_,fun k2=> ?_⟩,q.set Y hj aj (by omega)⟩
     ·rw[o5]at hx;have key:x≠i->x<n->o.getD x 0<0->(o.set i (j:Int)).getD x 0<0:=fun am hx h=>by rw[nA _ _ _ _ _ (by rw[q.lo];exact Y),if_neg am];exact h
      split at hx;·rename_i e;subst e;have G:=ge x (cW _ hx);exact⟨G.1,G.2.1,key (fun e=>(ny.1 gn).1 (by rw[<-e];exact hx)) G.2.1 G.2.2⟩
      ·rename_i e;have G:=g.el k2 x hx;exact⟨G.1,G.2.1,key (fun ak=>e (by subst ak;rw[ab]at G;exact(aU G.1).symm)) G.2.1 G.2.2⟩
     ·rw[o5];split;·exact(ny.1 gn).2
      ·exact g.nd k2
end
theorem BG{l:List Int}{x:Nat}:x∈dp l↔x<l.length/\l.getD x 0<0:=by unfold dp;rw[List.mem_filter,List.mem_range,decide_eq_true_eq]
theorem BH(l:List Int):(dp l).Nodup:=vM _ List.nodup_range
theorem Cj{G new:List Int}{n m:Nat}(s:lC G new n m)(cost:Nat->Nat->Int)(drop add:Nat->Int)(hc:let M:=gp (dp G) (dp new) cost drop add;∀i ab,i<M.length->ab<M.length->ge (mA M) i=ge (mA M) ab->i=ab):lC (eX G new cost drop add).1 (eX G new cost drop add).2 n m:=by
 unfold eX;simp only;split;·exact s
 have aL:(gp (dp G) (dp new) cost drop add).length=(dp G).length+(dp new).length:=by simp[gp]
 simp only at hc;rw[aL]at hc;generalize gp (dp G) (dp new) cost drop add=M at*;generalize mA M=J at*;have aG:=BH G;have b1:=BH new;have am:∀x∈dp G,x<n/\G.getD x 0<0:=fun x hx=>by have:=BG.1 hx;rw[s.lo]at this;exact this
 have b2:∀x∈dp new,x<m/\new.getD x 0<0:=fun x hx=>by have:=BG.1 hx;rw[s.ln]at this;exact this
 generalize dp G=a at*;generalize dp new=b at*;unfold nC;have:=mX (oJ a b M J) (fun k t=>lC t.1 t.2 n m/\(∀i,k<=i->i<a.length->t.1.getD (a.getD i 0) 0<0)/\(∀i,k<=i->i<a.length->0<=ge J i->ge J i<b.length->t.2.getD (b.getD (ge J i).toNat 0) 0<0)) (a.length+b.length) (G,new) ⟨s,fun i _ O=> ?_,fun i _ O ao h1=> ?_⟩ ?_;·exact this.1
 ·rw[getD_at O];exact(am _ (aK O)).2
 ·rw[getD_at (show(ge J i).toNat<b.length by omega)];exact(b2 _ (aK _)).2
 ·rintro k ⟨o,w⟩ aM ⟨q,h1,h2⟩;simp only at q h1 h2;unfold oJ;split
  ·rename_i c;obtain⟨c1,c2,c3,c4⟩:=c;have aj:a.getD k 0=a[k]:=getD_at c1;have ak:b.getD (ge J k).toNat 0=b[(ge J k).toNat]:=getD_at (by omega);have ax:=am _ (aK c1);have aB:=b2 _ (aK (show(ge J k).toNat<b.length by omega));refine⟨q.set (by rw[aj];exact ax.1) (by rw[ak];exact aB.1) (h1 k (kI _) c1) (h2 k (kI _) c1 c2 c3),fun i O Y=> ?_,fun i O Y ao aJ=> ?_⟩
   ·rw[nA _ _ _ _ _ (by rw[q.lo,aj];exact ax.1),if_neg fun e=> ?_];·exact h1 i (by omega) Y
    ·rw[aj,getD_at Y]at e;have:=(wj aG).1 e;omega
   ·rw[nA _ _ _ _ _ (by rw[q.ln,ak];exact aB.1),if_neg fun e=> ?_];·exact h2 i (by omega) Y ao aJ
    ·rw[ak,getD_at (show(ge J i).toNat<b.length by omega)]at e;have:=(wj b1).1 e;have:=hc i k (by omega) (by omega) (by omega);omega
  ·exact⟨q,fun i O=>h1 i (by omega),fun i O=>h2 i (by omega)⟩
structure eF(ot nt:List Tree)(U:Nat->Nat->Prop)(s:bp):Prop where
 rl:s.rs.length=nt.length
 ol:s.ot.length=ot.length
 nl:s.nt.length=nt.length
 gZ:∀i,i<nt.length->(s.rs.getD i []).length=(nt.getD i default).size
 mR:∀i,i<ot.length->(s.ot.getD i []).length=(ot.getD i default).size
 gY:∀i,i<nt.length->(s.nt.getD i []).length=(nt.getD i default).size
 each:∀m j,m<nt.length->j<(nt.getD m default).size->((s.rs.getD m []).getD j (-1,0)).1<0\/∃t k:Nat,(s.rs.getD m []).getD j (-1,0)=((t:Int),(k:Int))/\U t k/\t<ot.length/\k<(ot.getD t default).size/\(iZ (ot.getD t default))[k]? =(iZ (nt.getD m default))[j]?/\(s.ot.getD t []).getD k false=true
 inj:∀m j m' j',m<nt.length->j<(nt.getD m default).size->m'<nt.length->j'<(nt.getD m' default).size->0<=((s.rs.getD m []).getD j (-1,0)).1->(s.rs.getD m []).getD j (-1,0)=(s.rs.getD m' []).getD j' (-1,0)->m=m'/\j=j'
theorem eF.o7{ot nt:List Tree}{U W:Nat->Nat->Prop}{s:bp}(h:eF ot nt U s)(hw:∀t k,U t k->W t k):eF ot nt W s:=
 ⟨h.rl,h.ol,h.nl,h.gZ,h.mR,h.gY,fun m j h1 h2=>(h.each m j h1 h2).imp id fun⟨t,k,e,u,r⟩=>⟨t,k,e,hw t k u,r⟩,h.inj⟩
theorem eF.lB{ot nt:List Tree}{U:Nat->Nat->Prop}{s:bp}(h:eF ot nt U s)(a b c d:List Int)(x y:Int):eF ot nt U {s with om:=a,nm:=b,oa:=c,na:=d,cost:=x,a7:=y}:=⟨h.rl,h.ol,h.nl,h.gZ,h.mR,h.gY,h.each,h.inj⟩
theorem eF.node{ot nt:List Tree}{U:Nat->Nat->Prop}{s:bp}(h:eF ot nt U s)(m n t k:Nat)(hm:m<nt.length)(hn:n<(nt.getD m default).size)(aj:t<ot.length)(ax:k<(ot.getD t default).size)(aO:¬U t k)(aN:(iZ (ot.getD t default))[k]? =(iZ (nt.getD m default))[n]?):eF ot nt (fun a b=>U a b\/a=t/\b=k) (du s m n t k):=by
 have r1:m<s.rs.length:=by rw[h.rl];exact hm
 have r2:n<(s.rs.getD m []).length:=by rw[h.gZ m hm];exact hn
 have aB:t<s.ot.length:=by rw[h.ol];exact aj
 have aG:k<(s.ot.getD t []).length:=by rw[h.mR t aj];exact ax
 have ak:∀a b,a<nt.length->b<(nt.getD a default).size->(s.rs.getD a []).getD b (-1,0)≠((t:Int),(k:Int)):=fun a b ha O e=>by
  rcases h.each a b ha O with q|⟨t',k',q,u,_⟩;·rw[e]at q;simp only at q;omega
  ·rw[q]at e;simp only[jg,Int.ofNat_inj]at e;rw[e.1,e.2]at u;exact aO u
 have aJ:∀a b,(s.ot.getD a []).getD b false=true->((eM s.ot t k true).getD a []).getD b false=true:=fun a b q=>by
  rw[zw _ _ _ _ _ _ _ aB aG];split;·rfl
  ·exact q
 refine⟨by simp[du,eM,h.rl],by simp[du,eM,h.ol],by simp[du,eM,h.nl],fun i Y=>by simp only[du,lW];exact h.gZ i Y,fun i Y=>by simp only[du,lW];exact h.mR i Y,fun i Y=>by simp only[du,lW];exact h.gY i Y,fun a b ha O=> ?_,fun a b a' b' ha O am ao ab e=> ?_⟩
 ·simp only[du];rw[zw _ _ _ _ _ _ _ r1 r2];by_cases e:a=m/\b=n;·rw[if_pos e];obtain⟨rfl,rfl⟩:=e;exact .inr ⟨t,k,rfl,.inr ⟨rfl,rfl⟩,aj,ax,aN,by rw[zw _ _ _ _ _ _ _ aB aG,if_pos ⟨rfl,rfl⟩]⟩
  ·rw[if_neg e];exact(h.each a b ha O).imp id fun⟨t',k',G,u,h1,h2,aL,aM⟩=>⟨t',k',G,.inl u,h1,h2,aL,aJ _ _ aM⟩
 ·simp only[du]at ab e;rw[zw _ _ _ _ _ _ _ r1 r2]at ab e;rw[zw _ _ _ _ _ _ _ r1 r2]at e;by_cases G:a=m/\b=n
  ·by_cases J:a'=m/\b'=n;·rw[G.1,G.2,J.1,J.2];exact⟨rfl,rfl⟩
   ·rw[if_pos G,if_neg J]at e;exact absurd e.symm (ak a' b' am ao)
  ·rw[if_neg G]at ab e;by_cases J:a'=m/\b'=n;·rw[if_pos J]at e;exact absurd e (ak a b ha O)
   ·rw[if_neg J]at e;exact h.inj a b a' b' ha O am ao ab e
theorem eF.start(ot nt:List Tree):eF ot nt (fun _ _=>False) (cN ot nt):=by
 have rs:∀m j,m<nt.length->j<(nt.getD m default).size->((cN ot nt).rs.getD m []).getD j (-1,0)=(-1,0):=fun m j hm hj=>by simp[cN,bb,jB,aE hm,Mx];split<;>rfl
 refine⟨by simp[cN],by simp[cN],by simp[cN],fun i G=> ?_,fun i G=> ?_,fun i G=> ?_,fun m j hm hj=> .inl (by rw[rs m j hm hj];decide),fun m j m' J hm hj _ _ h=>by rw[rs m j hm hj]at h;exact absurd h (by decide)⟩;all_goals simp[cN,bb,jB,aE G]
theorem eF.all{ot nt:List Tree}(m n m' n':Nat)(O:m<ot.length)(hm:m'<nt.length):∀(ps:List (Int×Int)) (s:bp) (U:Nat->Nat->Prop),eF ot nt U s->ps.Pairwise (fun p q=>p.1≠q.1)->(∀p∈ps,0<=p.1/\n+p.1.toNat<(ot.getD m default).size/\n'+p.2.toNat<(nt.getD m' default).size/\¬U m (n+p.1.toNat)/\(iZ (ot.getD m default))[n+p.1.toNat]? =(iZ (nt.getD m' default))[n'+p.2.toNat]?)->eF ot nt (fun a b=>U a b\/a=m/\∃p∈ps,b=n+p.1.toNat) (gX m n m' n' ps s)/\(gX m n m' n' ps s).oa=s.oa/\(gX m n m' n' ps s).na=s.na/\(gX m n m' n' ps s).cost=s.cost/\(gX m n m' n' ps s).a7=s.a7
 |[],s,U,h,_,_=>⟨h.o7 fun _ _ u=> .inl u,rfl,rfl,rfl,rfl⟩
 |p::ps,s,U,h,hd,hp=>by
  obtain⟨aL,ab,aj,ak,am⟩:=hp p eu;have J:=fJ.1 hd;have h1:=h.node m' (n'+p.2.toNat) m (n+p.1.toNat) hm aj O ab ak am
  have Y:=eF.all m n m' n' O hm ps _ _ h1 J.2 fun q G=>by
   obtain⟨ao,ax,aB,aG,aJ⟩:=hp q (cW _ G);refine⟨ao,ax,aB,fun u=> ?_,aJ⟩;rcases u with u|⟨-,u⟩;·exact aG u
   ·have:=J.1 q G;omega
  refine⟨Y.1.o7 fun a b u=> ?_,Y.2⟩;rcases u with(u|u)|⟨u,q,G,e⟩;·exact .inl u
  ·exact .inr ⟨u.1,p,eu,u.2⟩
  ·exact .inr ⟨u,q,cW _ G,e⟩
theorem Mf{ot nt:List Tree}{s:bp}(h:eF ot nt (fun _ _=>False) s)(hs:lC s.om s.nm ot.length nt.length)(K:Int)(ao:∀i,i<ot.length->(ot.getD i default).kind=K)(hn:∀i,i<nt.length->(nt.getD i default).kind=K):eF ot nt (fun _ b=>b=0) ((aw s.nm.length).foldl ea s)/\((aw s.nm.length).foldl ea s).oa=s.oa/\((aw s.nm.length).foldl ea s).na=s.na/\((aw s.nm.length).foldl ea s).cost=s.cost/\((aw s.nm.length).foldl ea s).a7=s.a7:=by
 rw[hs.ln];have:=mX ea (fun k t=>eF ot nt (fun a b=>b=0/\∃j,j<k/\s.nm.getD j 0=(a:Int)) t/\t.oa=s.oa/\t.na=s.na/\t.nm=s.nm/\t.cost=s.cost/\t.a7=s.a7) nt.length s ⟨h.o7 fun _ _ e=>e.elim,rfl,rfl,rfl,rfl,rfl⟩ ?_;·exact⟨this.1.o7 fun _ _ e=>e.1,this.2.1,this.2.2.1,this.2.2.2.2⟩
 ·rintro k t J ⟨h1,h2,O,G,Y,ab⟩;unfold ea;have ak:ge t.nm k=s.nm.getD k 0:=by unfold ge;rw[G];rfl
  rw[ak];split
  ·rename_i am;obtain⟨i,e,aj,aB⟩:=hs.b k J am;rw[e,dy];have so:=(ot.getD i default).size_eq;have sn:=(nt.getD k default).size_eq;refine⟨(h1.node k 0 i 0 J (by omega) aj (by omega) (fun⟨_,j,hj,q⟩=> ?_) (by rw[qA,qA,ao i aj,hn k J];rfl)).o7 fun a b u=> ?_,h2,O,G,Y,ab⟩
   ·obtain⟨ax,e',aJ,aG⟩:=hs.b j (by omega) (by rw[q];omega);have:ax=i:=by omega
    subst this;omega
   ·rcases u with⟨u,j,hj,q⟩|⟨rfl,rfl⟩;·exact⟨u,j,by omega,q⟩
    ·exact⟨rfl,k,by omega,e⟩
  ·exact⟨h1.o7 fun a b ⟨u,j,hj,q⟩=>⟨u,j,by omega,q⟩,h2,O,G,Y,ab⟩
theorem GK(m:Nat):∀(J:List Tree) (n:Nat),∀d∈dt m n J,∀k,k<d.t.size->(ja J)[d.number-n+k]? =(iZ d.t)[k]?
 |[],n,d,hd,k,G=>by cases hd
 |t::ts,n,d,hd,k,G=>by
  rw[dt]at hd;rw[ja];rcases b8.1 hd with rfl|hd;·simp only at G⊢;rw[kH,Nat.zero_add,jD (by rw[lp];exact G)]
  ·have h1:=rM ts (n+t.size) d hd;rw[List.getElem?_append_right (by rw[lp];omega),lp,<-GK m ts (n+t.size) d hd k G];congr 1;omega
theorem qB:∀(ts:List Tree) (m:Nat),∀d∈aj m ts,∀k,k<d.t.size->(iZ (ts.getD (d.module-m) default))[d.number+k]? =(iZ d.t)[k]?
 |[],m,d,hd,k,G=>by cases hd
 |t::ts,m,d,hd,k,G=>by
  rw[aj]at hd;rcases xm.1 hd with hd|hd;·have h1:=rM t.kids 1 d hd;rw[h1.1,kH,List.getD_cons_zero,qA,<-GK m t.kids 1 d hd k G,show d.number+k=(d.number-1+k)+1 by omega,bQ]
  ·have h1:=mT ts (m+1) d hd;rw[show d.module-m=(d.module-(m+1))+1 by omega,List.getD_cons_succ];exact qB ts (m+1) d hd k G
theorem H7(m:Nat):∀(G:List Tree) (n:Nat),(dt m n G).Pairwise fun d e=>d.number+d.t.size<=e.number
 |[],n=>B1
 |t::ts,n=>by rw[dt,fJ];exact⟨fun e he=>(rM ts (n+t.size) e he).2.1,H7 m ts _⟩
theorem Jq:∀(ts:List Tree) (m:Nat),(aj m ts).Pairwise fun d e=>d.module=e.module->d.number+d.t.size<=e.number
 |[],m=>B1
 |t::ts,m=>by rw[aj,List.pairwise_append];refine⟨pk (S:=fun(d e:cF)=>d.module=e.module->d.number+d.t.size<=e.number) (fun h _=>h) (H7 m t.kids 1),Jq ts (m+1),fun a ha b G e=> ?_⟩;have h1:=(rM t.kids 1 a ha).1;have h2:=(mT ts (m+1) b G).1;omega
theorem Mg{ts:List Tree}{i j k:Nat}(G:i<(aj 0 ts).length)(hj:j<(aj 0 ts).length)(hm:((aj 0 ts).getD i default).module=((aj 0 ts).getD j default).module)(h1:((aj 0 ts).getD i default).number<=k)(h2:k<((aj 0 ts).getD i default).number+((aj 0 ts).getD i default).t.size)(J:((aj 0 ts).getD j default).number<=k)(O:k<((aj 0 ts).getD j default).number+((aj 0 ts).getD j default).t.size):i=j:=by
 have:=Jq ts 0;rw[List.pairwise_iff_getElem]at this;rw[getD_at G]at hm h1 h2;rw[getD_at hj]at hm J O;rcases Nat.lt_trichotomy i j with e|e|e;·have:=this i j G hj e hm;omega
 ·exact e
 ·have:=this j i hj G e hm.symm;omega
theorem Mh{ot nt:List Tree}{budget:Int}{s:bp}(h:eF ot nt (fun _ b=>b=0) s)(hs:lC s.oa s.na (aj 0 ot).length (aj 0 nt).length)(aZ:s.cost=0)(aY:s.a7=0)(a3:(aj 0 ot).length<=1000000)(a4:(aj 0 nt).length<=1000000)(aV:∀d∈aj 0 ot,d.t.size<=262144)(aX:∀d∈aj 0 nt,d.t.size<=262144)
  (hm:∀d∈aj 0 ot,∀e∈aj 0 nt,(bE (aO d.t) (aO e.t) budget).aR.Pairwise (fun p q=>p.1≠q.1)/\(∀p∈(bE (aO d.t) (aO e.t) budget).aR,0<=p.1/\p.1<d.t.size/\0<=p.2/\p.2<e.t.size/\(iZ d.t)[p.1.toNat]? =(iZ e.t)[p.2.toNat]?)/\
   0<=(bE (aO d.t) (aO e.t) budget).a7/\(bE (aO d.t) (aO e.t) budget).a7<=(bE (aO d.t) (aO e.t) budget).cost/\(bE (aO d.t) (aO e.t) budget).cost<=524288):
  eF ot nt (fun _ _=>True) (kw budget ot nt s)/\(kw budget ot nt s).a7<=(kw budget ot nt s).cost:=by
 unfold kw;have G:∀(ts:List Tree) i,i<(aj 0 ts).length->(aj 0 ts).getD i default∈aj 0 ts:=fun ts i J=>by rw[getD_at J];exact aK J
 have key:=mX (ek budget (aj 0 ot) (aj 0 nt)) (fun n t=>eF ot nt (fun a b=>b=0\/∃i,i<n/\((aj 0 ot).getD i default).module=a/\((aj 0 ot).getD i default).number<=b/\b<((aj 0 ot).getD i default).number+((aj 0 ot).getD i default).t.size) t/\t.oa=s.oa/\t.na=s.na/\0<=t.a7/\t.a7<=t.cost/\t.cost<=n*524288) (aj 0 ot).length s ⟨h.o7 fun a b u=> .inl u,rfl,rfl,by omega,by omega,by omega⟩ ?_
 ·obtain⟨h1,h2,O,Y,ab,aJ⟩:=key;generalize(aw (aj 0 ot).length).foldl (ek budget (aj 0 ot) (aj 0 nt)) s=t at*;have ak:=mX (gF (aj 0 nt)) (fun n t=>eF ot nt (fun _ _=>True) t/\0<=t.a7/\t.a7<=t.cost/\t.cost<=(1000000+n)*524288) (aj 0 nt).length t ⟨h1.o7 fun _ _ _=>trivial,Y,ab,by omega⟩ ?_;·exact⟨ak.1,ak.2.2.1⟩
  ·rintro j x hj ⟨g1,g2,aG,a1⟩;unfold gF;split;·have hz:=aX _ (G nt j hj);have w1:bS (x.cost+((aj 0 nt).getD j default).t.size)=x.cost+((aj 0 nt).getD j default).t.size:=zp (by omega) (by omega);have w2:bS (x.a7+((aj 0 nt).getD j default).t.size)=x.a7+((aj 0 nt).getD j default).t.size:=zp (by omega) (by omega);rw[w1,w2];exact⟨g1.lB _ _ _ _ _ _,by simp only;omega,by simp only;omega,by simp only;omega⟩
   ·exact⟨g1,g2,aG,by omega⟩
 ·rintro n t hn ⟨h1,h2,O,Y,ab,aJ⟩;have hz:=aV _ (G ot n hn);unfold ek;simp only;have ax:ge t.oa n=s.oa.getD n 0:=by unfold ge;rw[h2];rfl
  rw[ax];split
  ·have w1:bS (t.cost+((aj 0 ot).getD n default).t.size)=t.cost+((aj 0 ot).getD n default).t.size:=zp (by omega) (by omega);have w2:bS (t.a7+((aj 0 ot).getD n default).t.size)=t.a7+((aj 0 ot).getD n default).t.size:=zp (by omega) (by omega);rw[w1,w2];refine⟨(h1.lB _ _ _ _ _ _).o7 fun a b u=> ?_,h2,O,by simp only;omega,by simp only;omega,by simp only;omega⟩;rcases u with u|⟨i,J,u⟩;·exact .inl u
   ·exact .inr ⟨i,by omega,u⟩
  ·rename_i a2;obtain⟨j,aB,hj,-⟩:=hs.a n hn (by omega);rw[aB,dy];obtain⟨aL,am,a5,a8,a9⟩:=hm _ (G ot n hn) _ (G nt j hj);have aM:=mT ot 0 _ (G ot n hn);have nd:=mT nt 0 _ (G nt j hj);rw[qv]at aM nd;have w1:bS (t.cost+(bE (aO ((aj 0 ot).getD n default).t) (aO ((aj 0 nt).getD j default).t) budget).cost)=t.cost+(bE (aO ((aj 0 ot).getD n default).t) (aO ((aj 0 nt).getD j default).t) budget).cost:=zp (by omega) (by omega);have w2:bS (t.a7+(bE (aO ((aj 0 ot).getD n default).t) (aO ((aj 0 nt).getD j default).t) budget).a7)=t.a7+(bE (aO ((aj 0 ot).getD n default).t) (aO ((aj 0 nt).getD j default).t) budget).a7:=zp (by omega) (by omega);rw[w1,w2]
   have q:=eF.all ((aj 0 ot).getD n default).module ((aj 0 ot).getD n default).number ((aj 0 nt).getD j default).module ((aj 0 nt).getD j default).number (by omega) (by omega) (bE (aO ((aj 0 ot).getD n default).t) (aO ((aj 0 nt).getD j default).t) budget).aR _ _ (h1.lB t.om t.nm t.oa t.na (t.cost+(bE (aO ((aj 0 ot).getD n default).t) (aO ((aj 0 nt).getD j default).t) budget).cost) (t.a7+(bE (aO ((aj 0 ot).getD n default).t) (aO ((aj 0 nt).getD j default).t) budget).a7)) aL (fun p hp=>by
    obtain⟨ao,aN,ba,bd,aP⟩:=am p hp;refine⟨ao,by omega,by omega,fun u=> ?_,?_⟩
    ·rcases u with u|⟨i,J,aQ,aS,aT⟩;·omega
     ·have:=Mg (ts:=ot) (i:=i) (j:=n) (by omega) hn aQ aS aT (by omega) (by omega);omega
    ·have k1:=qB ot 0 _ (G ot n hn) p.1.toNat (by omega);have k2:=qB nt 0 _ (G nt j hj) p.2.toNat (by omega);rw[qv]at k1 k2;rw[k1,k2,aP])
   refine⟨q.1.o7 fun a b u=> ?_,by rw[q.2.1];exact h2,by rw[q.2.2.1];exact O,by rw[q.2.2.2.2];simp only;omega,by rw[q.2.2.2.2,q.2.2.2.1];simp only;omega,by rw[q.2.2.2.1];simp only;omega⟩;rcases u with(u|⟨i,J,u⟩)|⟨u,p,hp,e⟩;·exact .inl u
   ·exact .inr ⟨i,by omega,u⟩
   ·obtain⟨ao,aN,-⟩:=am p hp;exact .inr ⟨n,by omega,u.symm,by omega,by omega⟩
theorem Mi{ot nt:List Tree}(m n m' n':Nat)(G:m<ot.length)(hm:m'<nt.length)(z:Nat)(s:bp)(hz:n+z<=(ot.getD m default).size)(aB:n'+z<=(nt.getD m' default).size)(h:eF ot nt (fun t k=>(s.ot.getD t []).getD k false=true) s)(ax:∀i,i<z->(s.ot.getD m []).getD (n+i) false=false)(ao:∀i,i<z->(iZ (ot.getD m default))[n+i]? =(iZ (nt.getD m' default))[n'+i]?):eF ot nt (fun t k=>(((aw z).foldl (fun s i=>du s m' (n'+i) m (n+i)) s).ot.getD t []).getD k false=true) ((aw z).foldl (fun s i=>du s m' (n'+i) m (n+i)) s)/\((aw z).foldl (fun s i=>du s m' (n'+i) m (n+i)) s).cost=s.cost/\((aw z).foldl (fun s i=>du s m' (n'+i) m (n+i)) s).a7=s.a7:=by
 have:=mX (fun s i=>du s m' (n'+i) m (n+i)) (fun k t=>eF ot nt (fun a b=>(t.ot.getD a []).getD b false=true) t/\(∀i,k<=i->i<z->(t.ot.getD m []).getD (n+i) false=false)/\t.cost=s.cost/\t.a7=s.a7) z s ⟨h,fun i _ Y=>ax i Y,rfl,rfl⟩ ?_;·exact⟨this.1,this.2.2⟩
 ·rintro k t ab ⟨h1,h2,aj,ak⟩;have J:m<t.ot.length:=by rw[h1.ol];exact G
  have O:n+k<(t.ot.getD m []).length:=by rw[h1.mR m G];omega
  refine⟨(h1.node m' (n'+k) m (n+k) hm (by omega) G (by omega) (by rw[h2 k (kI _) ab];simp) (ao k ab)).o7 fun a b u=> ?_,fun i Y am=> ?_,aj,ak⟩
  ·simp only[du];rw[zw _ _ _ _ _ _ _ J O];split;·rfl
   ·rename_i e;exact u.resolve_right e
  ·simp only[du];rw[zw _ _ _ _ _ _ _ J O,if_neg fun e=>by omega];exact h2 i (by omega) am
theorem eF.flag{ot nt:List Tree}{U:Nat->Nat->Prop}{s:bp}(h:eF ot nt U s):eF ot nt (fun t k=>(s.ot.getD t []).getD k false=true) s:=
 ⟨h.rl,h.ol,h.nl,h.gZ,h.mR,h.gY,fun m j h1 h2=>(h.each m j h1 h2).imp id fun⟨t,k,e,_,a,b,c,d⟩=>⟨t,k,e,d,a,b,c,d⟩,h.inj⟩
theorem Mj{G:List (List Bool)}{x:bq}(hn:x.number+x.size<=(G.getD x.module []).length)(h:fX G x=true)(i:Nat)(J:i<x.size):(G.getD x.module []).getD (x.number+i) false=false:=by
 unfold fX at h;generalize G.getD x.module []=l at*;rw[List.all_eq_true]at h;have:=h l[x.number+i] (by rw[ij];exact⟨i,by rw[mb,pq];omega,by simp⟩)
 rw[getD_at (by omega)];simpa using this
section
variable {ck:Int->ByteArray->List Nat->ByteArray}
theorem Mk(Y:nY ck)(ot nt:List Tree):∀x∈(dk ck (aj 0 ot) []).1,∀y∈(dk ck (aj 0 nt) (dk ck (aj 0 ot) []).2).1,x.a6=y.a6->x.size=y.size/\∀i,i<x.size->(iZ (ot.getD x.module default))[x.number+i]? =(iZ (nt.getD y.module default))[y.number+i]? :=by
 intro x hx y hy e;obtain⟨aP,ax,aB⟩:=zN Y (aj 0 ot) [] (fun i J=>by simp at J);obtain⟨b1,b2,b3⟩:=zN Y (aj 0 nt) _ ax;obtain⟨u,aN,ab,d,hd,O,ak,G⟩:=aB x hx;obtain⟨v,aO,ao,f,hf,aG,aJ,aL⟩:=b3 y hy;have am:=dU.kinds Y (x.a6+1) x.a6 (by omega) u v (dU.mono b1 _ _ aN) (by rw[e];exact aO);have hz:x.size=y.size:=by rw[ab,ao,<-lp,<-lp,am]
 refine⟨hz,fun i J=> ?_⟩;have main:∀(ts:List Tree) (d:cF) (x:bq) (u:Tree),d∈aj 0 ts->x.module=d.module->d.number+1<=x.number->x.size=u.size->((ja d.t.kids).drop (x.number-(d.number+1))).take u.size=iZ u->i<x.size->(iZ (ts.getD x.module default))[x.number+i]? =(iZ u)[i]? :=by intro ts d x u hd O ak ab G J;have aM:=congrArg List.length G;rw[mb,pq,lp,zM]at aM;have hs:=d.t.size_eq;have aQ:=u.size_eq;have:=qB ts 0 d hd (x.number-d.number+i) (by omega);rw[qv,show d.number+(x.number-d.number+i)=x.number+i by omega]at this;rw[O,this,qA,show x.number-d.number+i=(x.number-(d.number+1)+i)+1 by omega,bQ,<-G,List.getElem?_take,if_pos (by omega),List.getElem?_drop]
 rw[main ot d x u hd O ak ab G J,main nt f y v hf aG aJ ao aL (by omega),am]
theorem Ml(aL:nY ck){ot nt:List Tree}{U:Nat->Nat->Prop}{s:bp}(h:eF ot nt U s)(r1:∀x∈(dk ck (aj 0 ot) []).1,x.module<ot.length/\0<x.size/\1<=x.number/\x.number+x.size<=(ot.getD x.module default).size)(r2:∀x∈(dk ck (aj 0 nt) (dk ck (aj 0 ot) []).2).1,x.module<nt.length/\0<x.size/\1<=x.number/\x.number+x.size<=(nt.getD x.module default).size):eF ot nt (fun t k=>((lc ck (aj 0 ot) (aj 0 nt) s).ot.getD t []).getD k false=true) (lc ck (aj 0 ot) (aj 0 nt) s)/\(lc ck (aj 0 ot) (aj 0 nt) s).cost=s.cost/\(lc ck (aj 0 ot) (aj 0 nt) s).a7=s.a7:=by
 unfold lc;simp only;have aB:=Mk aL ot nt;generalize dk ck (aj 0 ot) []=A at*
 have g0:∀k,∀o∈(aT (A.1.foldl gH []) k).getD [],o∈A.1/\(o.a6:Int)=k:=by
  have key:∀(l:List bq) (g:List (Int×List bq)),(∀o∈l,o∈A.1)->(∀k,∀o∈(aT g k).getD [],o∈A.1/\(o.a6:Int)=k)->∀k,∀o∈(aT (l.foldl gH g) k).getD [],o∈A.1/\(o.a6:Int)=k:=by
   intro l;induction l with
   |nil=>intro g _ h;exact h
   |cons x l Y=>
    intro g O J;rw[dK];refine Y _ (fun o G=>O o (cW _ G)) fun k o G=> ?_;unfold gH at G;split at G
    ·rw[o5]at G;split at G
     ·rename_i e;subst e;rcases xm.1 G with G|G;·exact J _ o G
      ·obtain rfl:=eR.1 G;exact⟨O o eu,rfl⟩
     ·exact J k o G
    ·exact J k o G
  exact key A.1 [] (fun _ h=>h) fun k o G=>by cases G
 have h:=h.flag;generalize A.1.foldl gH []=g at g0
 have key:∀(l:List bq),(∀y∈l,y∈(dk ck (aj 0 nt) A.2).1)->∀(g:List (Int×List bq)) (t:bp),(∀k,∀o∈(aT g k).getD [],o∈A.1/\(o.a6:Int)=k)->eF ot nt (fun a b=>(t.ot.getD a []).getD b false=true) t->t.cost=s.cost->t.a7=s.a7->
   eF ot nt (fun a b=>((l.foldl e3 (g,t)).2.ot.getD a []).getD b false=true) (l.foldl e3 (g,t)).2/\(l.foldl e3 (g,t)).2.cost=s.cost/\(l.foldl e3 (g,t)).2.a7=s.a7:=by
  intro l;induction l with
  |nil=>intro _ g t _ h c b;exact⟨h,c,b⟩
  |cons y l Y=>
   intro O g t J h c b;rw[dK];have ab:=fun z hz=>O z (cW _ hz);have hy:=O y eu;obtain⟨aN,aV,aX,aO⟩:=r2 y hy;unfold e3;split;·exact Y ab g t J h c b
   ·rename_i hn;simp only;have hd:∀o∈((aT g (y.a6:Int)).getD []).dropWhile (fun o=> !fX t.ot o),o∈(aT g (y.a6:Int)).getD []:=fun o G=>List.dropWhile_sublist _|>.mem G;have hf:=List.head?_dropWhile_not (fun o=> !fX t.ot o) ((aT g (y.a6:Int)).getD []);generalize((aT g (y.a6:Int)).getD []).dropWhile (fun o=> !fX t.ot o)=L at hd hf;cases L with
    |nil=>
     refine Y ab _ _ (fun k o G=> ?_) h c b;rw[o5]at G;split at G;·cases G
     ·exact J k o G
    |cons o r=>
     obtain⟨am,aP⟩:=J _ o (hd o eu);obtain⟨ao,aQ,aS,aM⟩:=r1 o am;obtain⟨hz,aG⟩:=aB o am y hy (by omega);have aJ:fX t.ot o=true:=by simpa using hf
     have q:=Mi (ot:=ot) (nt:=nt) o.module o.number y.module y.number ao aN y.size t (by omega) aO h (fun i ax=>Mj (by rw[h.mR _ ao];exact aM) aJ i (by omega)) (fun i ax=>aG i (by omega));refine Y ab _ _ (fun k ak G=> ?_) q.1 (by rw[q.2.1];exact c) (by rw[q.2.2];exact b);rw[o5]at G;split at G;·rename_i e;subst e;exact J _ ak (hd ak G)
     ·exact J k ak G
 exact key _ (fun _ h=>h) g s g0 h rfl rfl
end
section
variable {ck:Int->ByteArray->List Nat->ByteArray}
theorem Mm(aM:nY ck){ot nt:List Tree}{budget:Int}(K:Int)(aL:∀i,i<ot.length->(ot.getD i default).kind=K)(hn:∀i,i<nt.length->(nt.getD i default).kind=K)(Y:∀M:List (List Int),∀i G,i<M.length->G<M.length->ge (mA M) i=ge (mA M) G->i=G)(aG:(aj 0 ot).length<=1000000)(aJ:(aj 0 nt).length<=1000000)(aY:∀d∈aj 0 ot,d.t.size<=262144)(aZ:∀d∈aj 0 nt,d.t.size<=262144)
  (hm:∀d∈aj 0 ot,∀e∈aj 0 nt,(bE (aO d.t) (aO e.t) budget).aR.Pairwise (fun p q=>p.1≠q.1)/\(∀p∈(bE (aO d.t) (aO e.t) budget).aR,0<=p.1/\p.1<d.t.size/\0<=p.2/\p.2<e.t.size/\(iZ d.t)[p.1.toNat]? =(iZ e.t)[p.2.toNat]?)/\
   0<=(bE (aO d.t) (aO e.t) budget).a7/\(bE (aO d.t) (aO e.t) budget).a7<=(bE (aO d.t) (aO e.t) budget).cost/\(bE (aO d.t) (aO e.t) budget).cost<=524288)
  (r1:∀x∈(dk ck (aj 0 ot) []).1,x.module<ot.length/\0<x.size/\1<=x.number/\x.number+x.size<=(ot.getD x.module default).size)
  (r2:∀x∈(dk ck (aj 0 nt) (dk ck (aj 0 ot) []).2).1,x.module<nt.length/\0<x.size/\1<=x.number/\x.number+x.size<=(nt.getD x.module default).size):
  (∃U,eF ot nt U (eD ck budget ot nt))/\(eD ck budget ot nt).a7<=(eD ck budget ot nt).cost:=by
 have aN:eF ot nt (fun _ _=>False) (iC ot nt (cN ot nt)):=(eF.start ot nt).lB _ _ _ _ _ _;have s0:lC (iC ot nt (cN ot nt)).om (iC ot nt (cN ot nt)).nm ot.length nt.length:=Cj (uj (Bj _ _) _ _) _ _ _ (Y _);obtain⟨ab,J,O,ak,am⟩:=Mf aN s0 K aL hn;have aB:l5 ot nt (cN ot nt)=(aw (iC ot nt (cN ot nt)).nm.length).foldl ea (iC ot nt (cN ot nt)):=rfl;rw[<-aB]at ab J O ak am;have ax:(iC ot nt (cN ot nt)).cost=0:=rfl;have ao:(iC ot nt (cN ot nt)).a7=0:=rfl;have oa:(iC ot nt (cN ot nt)).oa=aA (aj 0 ot).length (-1):=rfl;have na:(iC ot nt (cN ot nt)).na=aA (aj 0 nt).length (-1):=rfl;unfold eD;generalize l5 ot nt (cN ot nt)=t at*;rw[oa]at J;rw[na]at O;have aX:lC (l4 budget ot nt t).oa (l4 budget ot nt t).na (aj 0 ot).length (aj 0 nt).length:=by unfold l4;simp only;rw[J,O];exact Cj (uj (uj (Bj _ _) _ _) _ _) _ _ _ (Y _)
 have n0:eF ot nt (fun _ b=>b=0) (l4 budget ot nt t):=ab.lB _ _ _ _ _ _;obtain⟨aP,aQ⟩:=Mh n0 aX (by rw[<-ax,<-ak];rfl) (by rw[<-ao,<-am];rfl) aG aJ aY aZ hm;obtain⟨aS,aT,aV⟩:=Ml aM aP r1 r2;exact⟨⟨_,aS⟩,by rw[aT,aV];exact aQ⟩
end
theorem A2{α:Type}(a b c d:α):∀(i:Nat) (l:List α),i+4<=l.length->((((l.set i a).set (i+1) b).set (i+2) c).set (i+3) d).take (i+4)=l.take i++[a,b,c,d]
 |0,G::J::O::Y::l,_=>by simp
 |0,[],h=>by simp at h
 |0,[_],h=>by simp at h
 |0,[_,_],h=>by simp at h
 |0,[_,_,_],h=>by simp at h
 |i+1,[],h=>by simp at h
 |i+1,x::l,h=>by have:=A2 a b c d i l (by simp at h;omega);simp only[List.set_cons_succ,Nat.add_right_comm i 1,List.take_succ_cons,List.cons_append];rw[this]
def sr(ts us:List Tree):Prop:=aN us=aN ts/\∀u∈us,u.lb
theorem vh(a b:List Tree):aN (a++b)=aN a++aN b:=by rw[iY,iY,iY,List.map_append]
theorem sr.next{ts us:List Tree}{j:Nat}{u:Tree}(h:sr (ts.take j) us)(hj:j<ts.length)(e:u.bare=ts[j].bare)(G:u.lb):sr (ts.take (j+1)) (us++[u]):=by
 refine⟨?_,fun x hx=> ?_⟩;·rw[vh,h.1,List.take_add_one,aE hj,vh];simp[aN,e]
 ·rcases xm.1 hx with hx|hx;·exact h.2 x hx
  ·rw[eR.1 hx];exact G
structure eE(h:Hp)(w:World)(t:Tree)(cT:Array Value)(bu:Nat)(lv kv:Value)(L:Nat)(h1:Hp)(wr:World)(j:Nat)(ls xs:List Value):Prop where
 st:St w.heap.size h w h1 wr
 tb:Has wr w.heap.size cT
 rb:Has wr (w.heap.size+1) #[af ae 0,ah ⟨#[]⟩,ag none 0 0,ag none 0 0]
 ub:Has wr bu #[af ae t.kind,ah t.text,lv,ag none 0 0]
 rn:h1 (w.heap.size+1)=none
 un:h1 bu=none
 blt:w.heap.size+1<bu
 lo:Ow wr h1 (w.heap.size+2) 9 1 lv L ls
 jY:PcV ls
 ko:Ow wr h1 (w.heap.size+2) 26 4 kv t.kids.length xs
 lu:lv.ownBlock≠some bu
 ku:kv.ownBlock≠some bu
 lk:∀g,lv.ownBlock=some g->kv.ownBlock≠some g
 kids:∃us,us.length=j/\aJ (bg h1) us (xs.take (j*4))/\sr (t.kids.take j) us
structure lx(h:Hp)(w:World)(t:Tree)(cT:Array Value)(bu:Nat)(lv:Value)(L:Nat)(wr:World)(ls:List Value):Prop where
 st:St w.heap.size h w h wr
 tb:Has wr w.heap.size cT
 rb:Has wr (w.heap.size+1) #[af ae 0,ah ⟨#[]⟩,ag none 0 0,ag none 0 0]
 ub:Has wr bu #[af ae t.kind,ah t.text,lv,ag none 0 0]
 un:h bu=none
 blt:w.heap.size+1<bu
 lo:Ow wr h (w.heap.size+2) 9 1 lv L ls
 jY:PcV ls
 lu:lv.ownBlock≠some bu
theorem lx.late{h:Hp}{w w0 J:World}{t:Tree}{cT:Array Value}{lv:Value}{L:Nat}{ls:List Value}(s0:St w.heap.size h w h w0)(ab:Has w0 w.heap.size cT)(r0:Has w0 (w.heap.size+1) #[af ae 0,ah ⟨#[]⟩,ag none 0 0,ag none 0 0])(O:Ow J h w0.drew.heap.size 9 1 lv L ls)(Y:PcV ls)(G:St w0.drew.heap.size h w0.drew h J):lx h w t cT J.heap.size lv L (J.alloc (.cells #[af ae t.kind,ah t.text,lv,ag none 0 0] 26)) ls:=by have aj:w.heap.size+1<w0.heap.size:=r0.lt;have ak:w0.heap.size<=J.heap.size:=G.below.size;exact⟨(s0.drew.call G).alloc _,(ab.drew.below G.below).alloc _,(r0.drew.below G.below).alloc _,Has.new _ _ _,bI G.I _ (kI _),by omega,(O.base (by show _<=w0.heap.size;omega)).alloc _,Y,fun e=>by have:=(O.lt _ e).2;omega⟩
theorem lx.early{h:Hp}{w w0 Y:World}{t:Tree}{cT:Array Value}{lv:Value}{L:Nat}{ls:List Value}{U:Array Value}{T:TypeId}(am:U= #[af ae 0,ah ⟨#[]⟩,ag none 0 0,ag none 0 0])(s0:St w.heap.size h w h w0)(aB:Has w0 w.heap.size cT)(r0:Has w0 (w.heap.size+1) #[af ae 0,ah ⟨#[]⟩,ag none 0 0,ag none 0 0])(aj:Ow Y h (w0.drew.alloc (.cells U T)).heap.size 9 1 lv L ls)(ao:PcV ls)(O:St (w0.drew.alloc (.cells U T)).heap.size h (w0.drew.alloc (.cells U T)) h Y):lx h w t cT w0.heap.size lv L ((((Y.setCell ⟨w0.heap.size,0,none⟩ (af ae t.kind)).setCell ⟨w0.heap.size,1,none⟩ (ah t.text)).setCell ⟨w0.heap.size,2,none⟩ lv).setCell ⟨w0.heap.size,3,none⟩ (ag none 0 0)) ls:=by
 subst am;have aJ:w.heap.size+1<w0.heap.size:=r0.lt;have ab:(w0.drew.alloc (.cells #[af ae 0,ah ⟨#[]⟩,ag none 0 0,ag none 0 0] T)).heap.size=w0.heap.size+1:=by simp
 have ak:Has Y w0.heap.size #[af ae 0,ah ⟨#[]⟩,ag none 0 0,ag none 0 0]:=(Has.new w0.drew #[af ae 0,ah ⟨#[]⟩,ag none 0 0,ag none 0 0] T).below O.below;have hn:h w0.heap.size=none:=bI s0.I _ (kI _);have st:=(s0.drew.alloc (.cells #[af ae 0,ah ⟨#[]⟩,ag none 0 0,ag none 0 0] T)).call O;have G:lv.ownBlock≠some w0.heap.size:=fun e=>by have:=(aj.lt _ e).1;rw[ab]at this;omega
 have aG:=(aB.drew.alloc (.cells #[af ae 0,ah ⟨#[]⟩,ag none 0 0,ag none 0 0] T)).below O.below;have ax:=(r0.drew.alloc (.cells #[af ae 0,ah ⟨#[]⟩,ag none 0 0,ag none 0 0] T)).below O.below;have J:w.heap.size<=w0.heap.size:=by omega
 exact⟨(((st.setCell (p:=⟨w0.heap.size,0,none⟩) J hn _).setCell (p:=⟨w0.heap.size,1,none⟩) J hn _).setCell (p:=⟨w0.heap.size,2,none⟩) J hn _).setCell (p:=⟨w0.heap.size,3,none⟩) J hn _,(((aG.ne (by omega) _ _).ne (by omega) _ _).ne (by omega) _ _).ne (by omega) _ _,(((ax.ne (by omega) _ _).ne (by omega) _ _).ne (by omega) _ _).ne (by omega) _ _,ak.aM _ _ _ _,hn,by omega,
  (((aj.base (by rw[ab];omega)).setCell G _|>.setCell G _).setCell G _).setCell G _,ao,G⟩
theorem lx.made{h:Hp}{w wr w2:World}{t:Tree}{cT:Array Value}{bu:Nat}{lv kv:Value}{L:Nat}{ls xs:List Value}(a:lx h w t cT bu lv L wr ls)(rn:h (w.heap.size+1)=none)(b:Below wr.heap.size wr w2)(G:Ow w2 h wr.heap.size 26 4 kv t.kids.length xs):eE h w t cT bu lv kv L h w2 0 ls xs:=by have Y:=a.blt;have ab:=a.ub.lt;exact⟨a.st.same b,a.tb.below b,a.rb.below b,a.ub.below b,rn,a.un,a.blt,a.lo.same b,a.jY,G.base (by omega),a.lu,fun e=>by have:=(G.lt _ e).1;omega,fun g e J=>by have:=(a.lo.lt g e).2;have:=(G.lt g J).1;omega,[],rfl,by simp[aJ],by simp[aN],fun u O=>by cases O⟩
section
variable {h h1 h2:Hp} {w wr w2:World} {t:Tree} {cT:Array Value} {bu L j:Nat} {lv kv:Value} {ls xs:List Value}
theorem eE.call(a:eE h w t cT bu lv kv L h1 wr j ls xs)(s:St wr.heap.size h1 wr h2 w2):eE h w t cT bu lv kv L h2 w2 j ls xs:=
 ⟨a.st.call s,a.tb.below s.below,a.rb.below s.below,a.ub.below s.below,(s.aI _ a.rb.lt).trans a.rn,(s.aI _ a.ub.lt).trans a.un,a.blt,a.lo.call s,a.jY,a.ko.call s,a.lu,a.ku,a.lk,by obtain⟨us,G,J,O⟩:=a.kids;exact⟨us,G,J.mono fun _ _ r=>r.mono s.le,O⟩⟩
theorem eE.below(a:eE h w t cT bu lv kv L h1 wr j ls xs)(b:Below wr.heap.size wr w2):eE h w t cT bu lv kv L h1 w2 j ls xs:=a.call (St.pI a.st.I b)
theorem eE.drew(a:eE h w t cT bu lv kv L h1 wr j ls xs):eE h w t cT bu lv kv L h1 wr.drew j ls xs:=a.below (Below.refl _ _).drew
theorem eE.lead{G J:Nat}(a:eE h w t cT bu (ag (some ⟨G,0,none⟩) L J) kv L h1 wr j ls xs)(i:Nat)(O:i<L)(s:ByteArray)(hs:Sh1 s):eE h w t cT bu (ag (some ⟨G,0,none⟩) L J) kv L h1 (wr.setCell ⟨G,i,none⟩ (ah s)) j (ls.set i (ah s)) xs:=by
 have Y:=(a.lo.lt G rfl).1;have hf:=a.lo.free G rfl;refine⟨a.st.setCell (p:=⟨G,i,none⟩) (by show _<=G;omega) hf _,a.tb.ne (by omega) _ _,a.rb.ne (by omega) _ _,a.ub.ne (fun e=>a.lu (by rw[<-e];rfl)) _ _,a.rn,a.un,a.blt,a.lo.set i _ (by omega),fun v hv=> ?_,a.ko.setCell (fun e=>a.lk G rfl e) _,a.lu,a.ku,a.lk,a.kids⟩;rcases List.mem_or_eq_of_mem_set hv with hv|hv;·exact a.jY v hv
 ·exact⟨s,hv,hs⟩
theorem eE.b4{gk ck:Nat}{u:Tree}{v0 Y ab aj:Value}(a:eE h w t cT bu lv (ag (some ⟨gk,0,none⟩) t.kids.length ck) L h1 wr j ls xs)(hj:j<t.kids.length)(aB:bg h1 u [v0,Y,ab,aj])(e:u.bare=t.kids[j].bare)(ax:u.lb):eE h w t cT bu lv (ag (some ⟨gk,0,none⟩) t.kids.length ck) L h1 ((((wr.setCell ⟨gk,j*4,none⟩ v0).setCell ⟨gk,j*4+1,none⟩ Y).setCell ⟨gk,j*4+2,none⟩ ab).setCell ⟨gk,j*4+3,none⟩ aj) (j+1) ls ((((xs.set (j*4) v0).set (j*4+1) Y).set (j*4+2) ab).set (j*4+3) aj):=by
 have aG:=(a.ko.lt gk rfl).1;have hf:=a.ko.free gk rfl;have G:∀{q:World} (i:Nat) (v:Value),St w.heap.size h w h1 q->St w.heap.size h w h1 (q.setCell ⟨gk,i,none⟩ v):=fun i v s=>s.setCell (p:=⟨gk,i,none⟩) (by show _<=gk;omega) hf _;have J:gk≠bu:=fun e=>a.ku (by rw[<-e];rfl);have O:lv.ownBlock≠some gk:=fun e=>a.lk gk e rfl;have hx:=a.ko.len
 refine⟨G _ _ (G _ _ (G _ _ (G _ _ a.st))),(((a.tb.ne (by omega) _ _).ne (by omega) _ _).ne (by omega) _ _).ne (by omega) _ _,(((a.rb.ne (by omega) _ _).ne (by omega) _ _).ne (by omega) _ _).ne (by omega) _ _,(((a.ub.ne J _ _).ne J _ _).ne J _ _).ne J _ _,a.rn,a.un,a.blt,
  (((a.lo.setCell O _).setCell O _).setCell O _).setCell O _,a.jY,(((a.ko.set _ v0 (by omega)).set _ Y (by omega)).set _ ab (by omega)).set _ aj (by omega),a.lu,a.ku,a.lk,?_⟩
 obtain⟨us,ak,am,ao⟩:=a.kids;refine⟨us++[u],by simp[ak],?_,ao.next hj e ax⟩;rw[show(j+1)*4=j*4+4 by omega,A2 _ _ _ _ _ _ (by omega)];exact am.append (aJ.one aB)
end
theorem eE.slot{h h1:Hp}{w wr:World}{t:Tree}{cT:Array Value}{bu L j:Nat}{lv:Value}{ls xs:List Value}{gk ck:Nat}(a:eE h w t cT bu lv (ag (some ⟨gk,0,none⟩) t.kids.length ck) L h1 wr j ls xs)(hj:j<t.kids.length):
  ∃G J O Y,(wr.cell? ⟨gk,j*4,none⟩=some G/\wr.cell? ⟨gk,j*4+1,none⟩=some J/\wr.cell? ⟨gk,j*4+2,none⟩=some O/\wr.cell? ⟨gk,j*4+3,none⟩=some Y)/\
   wr.frozen? ⟨gk,j*4,none⟩=false/\wr.frozen? ⟨gk,j*4+1,none⟩=false/\wr.frozen? ⟨gk,j*4+2,none⟩=false/\wr.frozen? ⟨gk,j*4+3,none⟩=false/\w.heap.size≠gk/\gk≠w.heap.size/\h1 gk=none:=by
 obtain⟨g,e,ab,_,hn,hc,hf⟩:=a.ko.cell (by omega);simp only[aC,cx,and_true]at e;subst e;have hx:=a.ko.len;exact⟨_,_,_,_,⟨hc _ _ (aE (by omega)),hc _ _ (aE (by omega)),hc _ _ (aE (by omega)),hc _ _ (aE (by omega))⟩,hf _,hf _,hf _,hf _,by omega,by omega,hn⟩
theorem eE.oh{h h1:Hp}{w wr:World}{t:Tree}{cT:Array Value}{bu L j:Nat}{kv:Value}{ls xs:List Value}{G:Option Addr}{O:Nat}(a:eE h w t cT bu (ag G L O) kv L h1 wr j ls xs)(i:Nat)(ab:i<L):∃g y,G=some ⟨g,0,none⟩/\wr.cell? ⟨g,i,none⟩=some y/\(∀q,wr.frozen? ⟨g,q,none⟩=false)/\(∀q,q<L->∃y,wr.cell? ⟨g,q,none⟩=some y)/\w.heap.size≠g/\g≠w.heap.size/\bu≠g/\g≠bu:=by obtain⟨g,e,Y,_,hn,hc,hf⟩:=a.lo.cell (by omega);subst e;have hx:=a.lo.len;have J:g≠bu:=fun e=>a.lu (by rw[<-e];rfl);exact⟨g,_,rfl,hc _ _ (aE (by omega)),hf,fun q aj=>⟨_,hc _ _ (aE (by omega))⟩,by omega,by omega,fun e=>J e.symm,J⟩
theorem Sl.bi{h:Hp}{b off m J n k:Nat}{cs:List Value}(s:Sl h (ag (some ⟨b,off,none⟩) m J) n k cs)(hn:0<n):∃c,h b=some c:=by
 obtain⟨a,c,e,_,_,G⟩:=s;simp only[bU]at e;obtain⟨rfl,rfl,rfl⟩:=e;rcases G with G|⟨b',Y,c',e,O,_⟩;·omega
 ·simp only[aC,cx,and_true]at e;exact⟨c',by rw[e.1];exact O⟩
def A3(h:Hp)(w:World)(t:Tree)(e:Ending)(w':World):Prop:=∃v' h' t',e= .returned v'/\St w.heap.size h w h' w'/\aP h' v' t'/\t'.bare=t.bare/\t'.lb
theorem Lu:∀{xs:List Value},PcV xs->∃l:List ByteArray,xs=l.map ah/\∀s∈l,s.size<=1000
 |[],_=>⟨[],rfl,fun _ h=>by cases h⟩
 |x::xs,h=>by
  obtain⟨s,rfl,hs⟩:=h x eu;obtain⟨l,e,J⟩:=Lu (xs:=xs) fun v hv=>h v (cW _ hv);refine⟨s::l,by rw[e];rfl,fun q G=> ?_⟩;rcases b8.1 G with rfl|G;·exact hs
  ·exact J q G
theorem eE.fin{h h1:Hp}{w wr:World}{t:Tree}{cT:Array Value}{bu L:Nat}{lv kv:Value}{ls xs:List Value}(a:eE h w t cT bu lv kv L h1 wr t.kids.length ls xs)(aM:aG t.kind)(aT:L<=1000000)(hn:t.kids.length<=140737488355328)(O:Value):A3 h w t (.returned (.agg #[af ae t.kind,ah t.text,lv,kv])) (((((wr.setCell ⟨bu,3,none⟩ O).setCell ⟨w.heap.size+1,0,none⟩ (af ae t.kind)).setCell ⟨w.heap.size+1,1,none⟩ (ah t.text)).setCell ⟨w.heap.size+1,2,none⟩ lv).setCell ⟨w.heap.size+1,3,none⟩ kv):=by
 have aV:=a.blt;have aS:=a.st.setCell (p:=⟨bu,3,none⟩) (by show _<=bu;omega) a.un O;have aJ:=(((aS.setCell (p:=⟨w.heap.size+1,0,none⟩) (my _) a.rn (af ae t.kind)).setCell (p:=⟨w.heap.size+1,1,none⟩) (my _) a.rn (ah t.text)).setCell (p:=⟨w.heap.size+1,2,none⟩) (my _) a.rn lv).setCell (p:=⟨w.heap.size+1,3,none⟩) (my _) a.rn kv;have J:lv.ownBlock≠some (w.heap.size+1):=fun e=>by have:=(a.lo.lt _ e).1;omega
 have G:kv.ownBlock≠some (w.heap.size+1):=fun e=>by have:=(a.ko.lt _ e).1;omega
 have aQ:=((((a.lo.setCell (p:=⟨bu,3,none⟩) a.lu O).setCell (p:=⟨w.heap.size+1,0,none⟩) J (af ae t.kind)).setCell (p:=⟨w.heap.size+1,1,none⟩) J (ah t.text)).setCell (p:=⟨w.heap.size+1,2,none⟩) J lv).setCell (p:=⟨w.heap.size+1,3,none⟩) J kv;have aO:=((((a.ko.setCell (p:=⟨bu,3,none⟩) a.ku O).setCell (p:=⟨w.heap.size+1,0,none⟩) G (af ae t.kind)).setCell (p:=⟨w.heap.size+1,1,none⟩) G (ah t.text)).setCell (p:=⟨w.heap.size+1,2,none⟩) G lv).setCell (p:=⟨w.heap.size+1,3,none⟩) G kv;have aB:=(aQ.base (B':=w.heap.size) (by omega)).sl (by omega);have aP:=(aO.base (B':=w.heap.size) (by omega)).sl hn;obtain⟨us,aL,ak,Y⟩:=a.kids;have hx:=a.ko.len;rw[List.take_of_length_le (by omega)]at ak;rw[List.take_length]at Y;obtain⟨l,am,aN⟩:=Lu a.jY;obtain⟨al,aj,rfl⟩:=a.lo.shape;obtain⟨ab,ck,rfl⟩:=a.ko.shape;have ao:l.length=L:=by have:=a.lo.len;rw[am,List.length_map]at this;omega
 have ax:us.length=t.kids.length:=aL;refine⟨_,_,.node t.kind t.text l us,rfl,aJ.fr,⟨[af ae t.kind,ah t.text,ag al L aj,ag ab t.kids.length ck],rfl,?_⟩,?_,?_⟩
 ·rw[bg.iff];refine⟨al,aj,ab,ck,xs,?_,aM,?_,?_,ak.mono fun _ _ r=>r.mono (Hp.gQ aJ.I)⟩;·simp only[Tree.kind,Tree.text,Tree.leads,Tree.kids,ao,ax]
  ·simp only[Tree.leads,ao];rw[am]at aB;exact aB
  ·simp only[Tree.kids,ax];exact aP
 ·cases t;rw[Tree.bare,Tree.bare];have:=Y.1;simp only[Tree.kids,Tree.kind,Tree.text]at this⊢;rw[this]
 ·rw[Tree.lb];exact⟨⟨by omega,aN⟩,u6 Y.2⟩
end Go.Proofs.YtdplggpbgommnaaGreatDoor
