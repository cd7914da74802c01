/- A program whose names are different is paired with itself, whatever its leads are: in plain words. -/
import Derived.Test.YtdplggpbgommnaaGreatDoorG22
import Derived.Test.YtdplggpbgommnaaGreatDoorPno
import Derived.Test.YtdplggpbgommnaaGreatDoorG23
open Go.Addr.mk renaming injEq->cx
open Go.IntKind renaming i64->ae
open Go.Value renaming int->af,slice->ag,string->ah
open Go.Value.slice renaming injEq->bU
open Int renaming toNat_natCast->dy
open List renaming findIdx?_eq_none_iff->Cb,findIdx?_eq_some_iff_getElem->oB,foldl_append->dH,foldl_cons->dK,getD_eq_getElem?_getD->bb,getElem?_eq_getElem->aE,getElem?_set_ne->B3,getElem_append_left->mf,getElem_mem->aK,mem_append->xm,mem_cons_of_mem->cW,mem_cons_self->eu,mem_iff_getElem->ij,range_succ->dx,range->aw,replicate->aA,set_append_right->ma
open List.Pairwise renaming imp->pk,nil->B1
open Nat renaming le_refl->kI,le_succ->my
open Option renaming getD_some->BW
open Option.some renaming injEq->aC
open Prod.mk renaming injEq->jg
namespace Go.Proofs.YtdplggpbgommnaaGreatDoor
open Go.RowKit
theorem zp{x:Int}(h: -9223372036854775808<=x)(h2:x<=9223372036854775807):bS x=x:=by unfold bS wrap64;omega
theorem uR{K α:Type}[DecidableEq K]{l:List (K×α)}{p:K}{k:Nat}(h:bm l p=some k):∃G:k<l.length,(l[k]).1=p/\∀j (hj:j<k),(l[j]'(by omega)).1≠p:=by unfold bm at h;rw[oB]at h;obtain⟨G,h1,h2⟩:=h;exact⟨G,by simpa using h1,fun j hj=>by simpa using h2 j hj⟩
theorem uS{K α:Type}[DecidableEq K]{l:List (K×α)}{p:K}(h:bm l p=none):∀q∈l,q.1≠p:=by unfold bm at h;rw[Cb]at h;exact fun q G=>by simpa using h q G
theorem rR{K α:Type}[DecidableEq K]{l:List (K×α)}{p:K}{k:Nat}(G:k<l.length)(h1:(l[k]).1=p)(h2:∀j (hj:j<k),(l[j]'(by omega)).1≠p):bm l p=some k:=by unfold bm;rw[oB];exact⟨G,by simpa using h1,fun j hj=>by simpa using h2 j hj⟩
theorem zq{K α:Type}[DecidableEq K]{l:List (K×α)}{p:K}(h:∀q∈l,q.1≠p):bm l p=none:=by unfold bm;rw[Cb];exact fun q G=>by simpa using h q G
theorem o5{K α:Type}[DecidableEq K](l:List (K×α))(p q:K)(v:α):aT (aY l p v) q=if q=p then some v else aT l q:=by
 unfold aY;cases hp:bm l p with
 |none=>
  have hn:=uS hp;by_cases e:q=p
  ·subst e;rw[if_pos rfl];have:bm (l++[(q,v)]) q=some l.length:=rR (by simp) (by simp) fun j hj=>by rw[mf hj];exact hn _ (aK hj)
   simp[aT,this]
  ·rw[if_neg e];cases hq:bm l q with
   |none=>
    have Y:=uS hq
    have:bm (l++[(p,v)]) q=none:=zq fun x hx=>by
     rcases xm.1 hx with hx|hx;·exact Y x hx
     ·simp at hx;subst hx;exact fun O=>e O.symm
    simp[aT,this,hq]
   |some k=>
    obtain⟨G,h1,h2⟩:=uR hq;have:bm (l++[(p,v)]) q=some k:=rR (by simp;omega) (by rw[mf G];exact h1) fun j hj=>by rw[mf (by omega)];exact h2 j hj
    simp[aT,this,hq,List.getElem?_append_left G]
 |some k=>
  obtain⟨G,h1,h2⟩:=uR hp
  have J:∀j (hj:j<(l.set k (p,v)).length),((l.set k (p,v))[j]).1=(l[j]'(by simpa using hj)).1:=fun j hj=>by
   rw[List.getElem_set];split;·rename_i e;subst e;exact h1.symm
   ·rfl
  by_cases e:q=p
  ·subst e;rw[if_pos rfl];have:bm (l.set k (q,v)) q=some k:=rR (by simpa using G) (by simp) fun j hj=>by rw[J];exact h2 j hj
   simp[aT,this,G]
  ·rw[if_neg e];cases hq:bm l q with
   |none=>
    have Y:=uS hq;have:bm (l.set k (p,v)) q=none:=zq fun x hx=>by obtain⟨j,hj,rfl⟩:=ij.1 hx;rw[J];exact Y _ (aK _)
    simp[aT,this,hq]
   |some i=>
    obtain⟨ab,g1,g2⟩:=uR hq;have aj:k≠i:=fun O=>e (by subst O;rw[<-g1,h1]);have:bm (l.set k (p,v)) q=some i:=rR (by simpa using ab) (by rw[J];exact g1) fun j hj=>by rw[J];exact g2 j hj
    simp[aT,this,hq,B3 aj]
def cd(n:Nat)(P:Nat->Bool):List Int:=(aw n).map fun i=>if P i then(i:Int)else-1
theorem qh(n:Nat)(P:Nat->Bool):(cd n P).length=n:=by simp[cd]
theorem zr(n:Nat)(P:Nat->Bool)(i:Nat)(G:i<n):(cd n P).getD i 0=if P i then(i:Int)else-1:=by simp[cd,bb,G]
theorem mX{α:Type}(f:α->Nat->α)(G:Nat->α->Prop)(n:Nat)(a:α)(J:G 0 a)(hs:∀j s,j<n->G j s->G (j+1) (f s j)):G n ((aw n).foldl f a):=by
 induction n with
 |zero=>exact J
 |succ n O=>rw[dx,dH];exact hs n _ (by omega) (O fun j s hj=>hs j s (by omega))
section
variable {K:Type} [DecidableEq K]
theorem Gw(n:Nat)(ok:Nat->Option K)(k:Nat->K)(aj:∀i,i<n->ok i=some (k i))(O:∀i j,i<n->j<n->k i=k j->i=j):(∀i,i<n->aT (iK (aA n (-1)) ok n) (k i)=some [i])/\∀q,(∀i,i<n->k i≠q)->aT (iK (aA n (-1)) ok n) q=none:=by
 unfold iK;have:=mX (fw (aA n (-1)) ok) (fun m r=>(∀i,i<m->aT r (k i)=some [i])/\∀q,(∀i,i<m->k i≠q)->aT r q=none) n [] ⟨fun i G=>by omega,fun q _=>rfl⟩ ?_;·exact this
 ·intro j r hj ⟨h1,h2⟩;unfold fw;rw[aj j hj];have Y:(aA n (-1:Int)).getD j 0<0:=by simp[bb,hj]
  simp only[Y,if_true];rw[h2 (k j) fun i G e=>by have:=O i j (by omega) hj e;omega];refine⟨fun i G=> ?_,fun q J=> ?_⟩
  ·rw[o5];by_cases e:i=j;·subst e;simp
   ·rw[if_neg fun ab=>e (O i j (by omega) hj ab)];exact h1 i (by omega)
  ·rw[o5,if_neg fun e=>J j (by omega) e.symm];exact h2 q fun i G=>J i (by omega)
theorem zt(n:Nat)(ok aj:Nat->Option K)(k k':Nat->K)(P:Nat->Bool)(aG:∀i,i<n->ok i=some (k i))(aJ:∀i,i<n->aj i=some (k' i))(am:∀i j,i<n->j<n->k i=k j->i=j)(aB:∀i,i<n->P i=true->k' i=k i)(ax:∀i,i<n->P i=false->∀j,j<n->k j≠k' i):dh (aA n (-1)) (aA n (-1)) ok aj=(cd n P,cd n P):=by
 obtain⟨g1,g2⟩:=Gw n ok k aG am;unfold dh;rw[List.length_replicate];have:=mX (gx aj) (fun m s=>(∀i,m<=i->i<n->aT s.1 (k i)=some [i])/\(∀q,(∀i,i<n->k i≠q)->aT s.1 q=none)/\s.2.1=cd m P++aA (n-m) (-1)/\s.2.2=cd m P++aA (n-m) (-1)) n (iK (aA n (-1)) ok n,aA n (-1),aA n (-1)) ⟨fun i _ ab=>g1 i ab,g2,by simp[cd],by simp[cd]⟩ ?_
 ·have h1:=this.2.2.1;have h2:=this.2.2.2;simp only[Nat.sub_self,List.replicate_zero,List.append_nil]at h1 h2;exact Prod.ext h1 h2
 ·rintro j ⟨r,o,m⟩ hj ⟨h1,h2,Y,G⟩;simp only at h1 h2 Y G;have ao:m.getD j 0= -1:=by rw[G,bb,List.getElem?_append_right (by simp[cd])];simp[cd,show 0<n-j by omega]
  have O:cd (j+1) P=cd j P++[if P j then(j:Int)else-1]:=by simp[cd,dx]
  have J:aA (n-j) (-1:Int)= -1::aA (n-(j+1)) (-1):=by rw[show n-j=(n-(j+1))+1 by omega,List.replicate_succ]
  unfold gx;rw[aJ j hj];simp only[ao];rw[if_neg (by omega)];cases hPj:P j with
  |true=>
   rw[aB j hj hPj,h1 j (kI _) hj];simp only[BW];refine⟨fun i ab hn=> ?_,fun q ak=> ?_,?_,?_⟩;·rw[o5,if_neg fun e=>by have:=am i j hn hj e;omega];exact h1 i (by omega) hn
   ·rw[o5,if_neg fun e=>ak j hj e.symm];exact h2 q ak
   ·rw[Y,O,J,hPj,ma _ _ (by simp[cd])];simp[cd]
   ·rw[G,O,J,hPj,ma _ _ (by simp[cd])];simp[cd]
  |false=>
   rw[h2 (k' j) (ax j hj hPj)];simp only[Option.getD_none];refine⟨fun i ab hn=>h1 i (by omega) hn,h2,?_,?_⟩;·rw[Y,O,J,hPj];simp
   ·rw[G,O,J,hPj];simp
theorem Gx(n:Nat)(G new:List Int)(ok Y:Nat->Option K)(aj:G.length=n)(hn:new.length=n)(h:∀i,i<n->G.getD i 0<0->∀j,j<n->new.getD j 0<0->∀a b,ok i=some a->Y j=some b->a≠b):dh G new ok Y=(G,new):=by
 have g:∀q,(∀i,i<n->G.getD i 0<0->ok i≠some q)->aT (iK G ok n) q=none:=by
  unfold iK;have:=mX (fw G ok) (fun m r=>∀q,(∀i,i<m->G.getD i 0<0->ok i≠some q)->aT r q=none) n [] (fun q _=>rfl) ?_;·exact this
  ·intro j r hj h1 q O;unfold fw;cases hk:ok j with
   |none=>exact h1 q fun i J=>O i (by omega)
   |some a=>
    simp only;split;·rename_i ab;rw[o5,if_neg fun e=>O j (by omega) ab (by rw[hk,e])];exact h1 q fun i J=>O i (by omega)
    ·exact h1 q fun i J=>O i (by omega)
 unfold dh;rw[aj,hn];have:=mX (gx Y) (fun _ s=>s=(iK G ok n,G,new)) n (iK G ok n,G,new) rfl ?_;·rw[this]
 ·rintro j s hj rfl;unfold gx;cases hk:Y j with
  |none=>rfl
  |some b=>
   simp only;split;·rfl
   ·rename_i ab;rw[g b fun i J h1 h2=>h i J h1 j hj (by omega) b b h2 hk rfl];rfl
end
theorem Gy{l:List Int}(h:∀i,i<l.length->0<=l.getD i 0):dp l=[]:=by unfold dp;rw[List.filter_eq_nil_iff];intro i G;have:=h i (List.mem_range.1 G);simp only[decide_eq_true_eq];omega
theorem zu{G new:List Int}(h1:dp G=[])(h2:dp new=[])(cost:Nat->Nat->Int)(drop add:Nat->Int):eX G new cost drop add=(G,new):=by unfold eX;simp[h1,h2,nC]
theorem o6(n i:Nat)(G:i<n):(cd n fun _=>true).getD i 0=i:=by rw[zr n _ i G];rfl
theorem rS(n:Nat):dp (cd n fun _=>true)=[]:=Gy fun i G=>by rw[qh]at G;rw[o6 n i G];omega
structure e5(ts:List Tree)(D:Nat->Nat->Prop)(s:bp):Prop where
 rl:s.rs.length=ts.length
 nl:s.nt.length=ts.length
 gZ:∀i,i<ts.length->(s.rs.getD i []).length=(ts.getD i default).size
 gY:∀i,i<ts.length->(s.nt.getD i []).length=(ts.getD i default).size
 rs:∀m j,m<ts.length->j<(ts.getD m default).size->D m j->(s.rs.getD m []).getD j (-1,0)=((m:Int),(j:Int))
 nt:∀m j,m<ts.length->j<(ts.getD m default).size->D m j->(s.nt.getD m []).getD j false=true
theorem zw{α:Type}(l:List (List α))(i j m k:Nat)(x d:α)(J:i<l.length)(hj:j<(l.getD i []).length):((eM l i j x).getD m []).getD k d=if m=i/\k=j then x else(l.getD m []).getD k d:=by
 by_cases h:m=i
 ·subst h;rw[p7 l m j x J];by_cases G:k=j;·subst G;rw[if_pos ⟨rfl,rfl⟩,bb,List.getElem?_set_self hj];rfl
  ·rw[if_neg fun e=>G e.2,bb,B3 fun e=>G e.symm,<-bb]
 ·rw[if_neg fun e=>h e.1,p8 l i j m x h]
theorem e5.o7{ts:List Tree}{D E:Nat->Nat->Prop}{s:bp}(h:e5 ts D s)(hd:∀m j,E m j->D m j):e5 ts E s:=
 ⟨h.rl,h.nl,h.gZ,h.gY,fun m j h1 h2 G=>h.rs m j h1 h2 (hd m j G),fun m j h1 h2 G=>h.nt m j h1 h2 (hd m j G)⟩
theorem e5.node{ts:List Tree}{D:Nat->Nat->Prop}{s:bp}(h:e5 ts D s)(m j:Nat)(hm:m<ts.length)(hj:j<(ts.getD m default).size):e5 ts (fun a b=>D a b\/a=m/\b=j) (du s m j m j):=by
 have r1:m<s.rs.length:=by rw[h.rl];exact hm
 have r2:j<(s.rs.getD m []).length:=by rw[h.gZ m hm];exact hj
 have O:m<s.nt.length:=by rw[h.nl];exact hm
 have Y:j<(s.nt.getD m []).length:=by rw[h.gY m hm];exact hj
 refine⟨by simp[du,eM,h.rl],by simp[du,eM,h.nl],fun i J=>by simp only[du,lW];exact h.gZ i J,fun i J=>by simp only[du,lW];exact h.gY i J,fun a b ha G hd=> ?_,fun a b ha G hd=> ?_⟩
 ·simp only[du];rw[zw _ _ _ _ _ _ _ r1 r2];by_cases e:a=m/\b=j;·rw[if_pos e,e.1,e.2]
  ·rw[if_neg e];exact h.rs a b ha G (hd.resolve_right e)
 ·simp only[du];rw[zw _ _ _ _ _ _ _ O Y];by_cases e:a=m/\b=j;·rw[if_pos e]
  ·rw[if_neg e];exact h.nt a b ha G (hd.resolve_right e)
theorem e5.Gz{ts:List Tree}{D:Nat->Nat->Prop}{s:bp}(h:e5 ts D s)(c b:Int):e5 ts D {s with cost:=c,a7:=b}:=⟨h.rl,h.nl,h.gZ,h.gY,h.rs,h.nt⟩
theorem e5.all{ts:List Tree}{D:Nat->Nat->Prop}{s:bp}(h:e5 ts D s)(m n z:Nat)(hm:m<ts.length)(hj:n+z<=(ts.getD m default).size):e5 ts (fun a b=>D a b\/a=m/\n<=b/\b<n+z) (gX m n m n (dT z) s)/\(gX m n m n (dT z) s).oa=s.oa/\(gX m n m n (dT z) s).na=s.na/\(gX m n m n (dT z) s).cost=s.cost/\(gX m n m n (dT z) s).a7=s.a7:=by
 unfold gX dT;rw[List.foldl_map];have:=mX (fun s (p:Nat)=>du s m (n+((p:Int),(p:Int)).2.toNat) m (n+((p:Int),(p:Int)).1.toNat)) (fun k t=>e5 ts (fun a b=>D a b\/a=m/\n<=b/\b<n+k) t/\t.oa=s.oa/\t.na=s.na/\t.cost=s.cost/\t.a7=s.a7) z s ⟨h.o7 fun a b e=>e.elim id fun e=>by omega,rfl,rfl,rfl,rfl⟩ ?_;·exact this
 ·rintro k t ab ⟨h1,h2,J,O,Y⟩;have:=h1.node m (n+k) hm (by omega);simp only[dy];exact⟨this.o7 fun a b e=>by rcases e with e|e;exact .inl (.inl e);by_cases G:b=n+k;exact .inr ⟨e.1,G⟩;exact .inl (.inr ⟨e.1,e.2.1,by omega⟩),h2,J,O,Y⟩
theorem GC{ts:List Tree}{s:bp}(h:e5 ts (fun _ _=>False) s)(hs:s.nm=cd ts.length fun _=>true)(hp:∀i,i<ts.length->0<(ts.getD i default).size):e5 ts (fun _ b=>b=0) ((aw s.nm.length).foldl ea s)/\((aw s.nm.length).foldl ea s).oa=s.oa/\((aw s.nm.length).foldl ea s).na=s.na/\((aw s.nm.length).foldl ea s).nm=s.nm/\((aw s.nm.length).foldl ea s).cost=s.cost/\((aw s.nm.length).foldl ea s).a7=s.a7:=by
 have ak:s.nm.length=ts.length:=by rw[hs,qh]
 rw[ak];have:=mX ea (fun k t=>e5 ts (fun a b=>a<k/\b=0) t/\t.oa=s.oa/\t.na=s.na/\t.nm=s.nm/\t.cost=s.cost/\t.a7=s.a7) ts.length s ⟨h.o7 fun a b e=>by omega,rfl,rfl,rfl,rfl,rfl⟩ ?_;·refine⟨⟨this.1.rl,this.1.nl,this.1.gZ,this.1.gY,fun m j h1 h2 G=>this.1.rs m j h1 h2 ⟨h1,G⟩,fun m j h1 h2 G=>this.1.nt m j h1 h2 ⟨h1,G⟩⟩,this.2⟩
 ·rintro k t J ⟨h1,h2,G,O,ab,aj⟩;have e:ge t.nm k=(k:Int):=by unfold ge;rw[O,hs];simpa using o6 ts.length k J
  unfold ea;rw[e,if_pos (by omega),dy];refine⟨(h1.node k 0 J (hp k J)).o7 fun a b e=> ?_,h2,G,O,ab,aj⟩;by_cases Y:a=k;·exact .inr ⟨Y,e.2⟩
  ·exact .inl ⟨by omega,e.2⟩
theorem GD{ts:List Tree}{budget:Int}{od nd:List cF}{s:bp}(h:e5 ts (fun _ b=>b=0) s)(aV:nd.length=od.length)(ha:s.oa=cd od.length fun _=>true)(ax:s.na=cd od.length fun _=>true)
  (hm:∀i,i<od.length->(nd.getD i default).module=(od.getD i default).module/\(nd.getD i default).number=(od.getD i default).number/\(od.getD i default).module<ts.length/\(od.getD i default).number+(od.getD i default).t.size<=(ts.getD (od.getD i default).module default).size/\
   (bE (aO (od.getD i default).t) (aO (nd.getD i default).t) budget).aR=dT (od.getD i default).t.size)
  (aG:∀m j,m<ts.length->0<j->j<(ts.getD m default).size->∃i,i<od.length/\(od.getD i default).module=m/\(od.getD i default).number<=j/\j<(od.getD i default).number+(od.getD i default).t.size)
  (c b:Int->Nat->Int) (hc:∀x i,i<od.length->bS (x+(bE (aO (od.getD i default).t) (aO (nd.getD i default).t) budget).cost)=c x i) (aB:∀x i,i<od.length->bS (x+(bE (aO (od.getD i default).t) (aO (nd.getD i default).t) budget).a7)=b x i):
  let e:=(aw nd.length).foldl (gF nd) ((aw od.length).foldl (ek budget od nd) s)
  e5 ts (fun _ _=>True) e/\e.cost=(aw od.length).foldl c s.cost/\e.a7=(aw od.length).foldl b s.a7:=by
 have key:∀n,n<=od.length->e5 ts (fun x y=>y=0\/∃i,i<n/\(od.getD i default).module=x/\(od.getD i default).number<=y/\y<(od.getD i default).number+(od.getD i default).t.size) ((aw n).foldl (ek budget od nd) s)/\((aw n).foldl (ek budget od nd) s).oa=s.oa/\((aw n).foldl (ek budget od nd) s).na=s.na/\((aw n).foldl (ek budget od nd) s).cost=(aw n).foldl c s.cost/\((aw n).foldl (ek budget od nd) s).a7=(aw n).foldl b s.a7:=by
  intro n;induction n with
  |zero=>exact fun _=>⟨h.o7 fun a b e=>e.elim id fun⟨i,aj,_⟩=>by omega,rfl,rfl,rfl,rfl⟩
  |succ n aM=>
   intro hn;obtain⟨h1,h2,O,Y,ab⟩:=aM (by omega);rw[dx,dH,dH,dH];obtain⟨aN,aP,aQ,aS,aT⟩:=hm n (by omega);generalize(aw n).foldl (ek budget od nd) s=t at*;simp only[dK,List.foldl_nil];have e:ge t.oa n=(n:Int):=by unfold ge;rw[h2,ha];simpa using o6 od.length n (by omega)
   unfold ek;simp only[e];rw[if_neg (by omega),dy,aN,aP,aT];have q:=(h1.Gz (bS (t.cost+(bE (aO (od.getD n default).t) (aO (nd.getD n default).t) budget).cost)) (bS (t.a7+(bE (aO (od.getD n default).t) (aO (nd.getD n default).t) budget).a7))).all _ _ _ aQ aS;refine⟨q.1.o7 fun x y e=> ?_,by rw[q.2.1];exact h2,by rw[q.2.2.1];exact O,by rw[q.2.2.2.1];simp only;rw[hc _ _ (by omega),Y],by rw[q.2.2.2.2];simp only;rw[aB _ _ (by omega),ab]⟩;rcases e with e|⟨i,aj,ak,am,ao⟩;·exact .inl (.inl e)
   ·by_cases aJ:i=n;·subst aJ;exact .inr ⟨ak.symm,am,ao⟩
    ·exact .inl (.inr ⟨i,by omega,ak,am,ao⟩)
 obtain⟨h1,h2,O,Y,ab⟩:=key od.length (kI _)
 have left:∀t:bp,t.na=s.na->(aw nd.length).foldl (gF nd) t=t:=by
  intro t aL;refine mX (gF nd) (fun _ x=>x=t) nd.length t rfl ?_;rintro j x hj rfl;unfold gF;have e:ge x.na j=(j:Int):=by unfold ge;rw[aL,ax];simpa using o6 od.length j (by omega)
  rw[e,if_neg (by omega)]
 rw[left _ O];refine⟨⟨h1.rl,h1.nl,h1.gZ,h1.gY,fun m j G J _=>h1.rs m j G J ?_,fun m j G J _=>h1.nt m j G J ?_⟩,Y,ab⟩
 all_goals
  rcases Nat.eq_zero_or_pos j with e|e;·exact .inl e
  ·obtain⟨i,aj,q⟩:=aG m j G e J;exact .inr ⟨i,aj,q⟩
section
variable {ck:Int->ByteArray->List Nat->ByteArray}
theorem GF{ts:List Tree}{s:bp}{od nd:List cF}(h:e5 ts (fun _ _=>True) s)(hr:∀kn,∀x∈(dk ck nd kn).1,x.module<ts.length/\0<x.size/\1<=x.number/\x.number+x.size<=(ts.getD x.module default).size):lc ck od nd s=s:=by
 unfold lc;simp only
 have key:∀(l:List bq) (g:List (Int×List bq)),(∀x∈l,x.module<ts.length/\0<x.size/\1<=x.number/\x.number+x.size<=(ts.getD x.module default).size)->l.foldl e3 (g,s)=(g,s):=by
  intro l;induction l with
  |nil=>intro g _;rfl
  |cons x l O=>
   intro g J;obtain⟨h1,h2,ab,aj⟩:=J x eu;have hx:fX s.nt x=false:=by unfold fX;rw[List.all_eq_false];have Y:=h.gY x.module h1;have G:=h.nt x.module x.number h1 (by omega) trivial;refine⟨true,?_,by simp⟩;generalize s.nt.getD x.module []=l at*;rw[bb,aE (by omega)]at G;rw[ij];refine⟨0,by rw[List.length_take,List.length_drop];omega,?_⟩;simpa using G
   rw[dK];have:e3 (g,s) x=(g,s):=by unfold e3;rw[if_pos (.inr (.inr hx))]
   rw[this];exact O g fun y hy=>J y (cW _ hy)
 rw[key _ _ (hr _)]
end
mutual
def Tree.bare:Tree->Tree| .node k s _ ks=> .node k s [] (aN ks)
def aN:List Tree->List Tree
 |[]=>[]
 |t::ts=>t.bare::aN ts
end
theorem iY(ts:List Tree):aN ts=ts.map Tree.bare:=by
 induction ts with
 |nil=>rw[aN];rfl
 |cons a l G=>rw[aN,G];rfl
theorem o8(t:Tree):t.bare.kind=t.kind:=by cases t;rw[Tree.bare];rfl
theorem o9(t:Tree):t.bare.text=t.text:=by cases t;rw[Tree.bare];rfl
theorem rT(t:Tree):t.bare.kids=aN t.kids:=by cases t;rw[Tree.bare];rfl
mutual
theorem l3:∀t:Tree,t.bare.size=t.size
 | .node k s l G=>by rw[Tree.bare,Tree.size,Tree.size,uT G]
theorem uT:∀ts:List Tree,ax (aN ts)=ax ts
 |[]=>by rw[aN]
 |t::ts=>by rw[aN,ax,ax,l3 t,uT ts]
end
def rU(ts:List Tree):Prop:=(ts.map Tree.text).Nodup/\∀t∈ts,(t.kids.map Tree.text).Nodup
theorem GG(m n:Nat)(G:List Tree):(dt m n G).map (fun d=>d.t.text)=G.map Tree.text:=by
 induction G generalizing n with
 |nil=>rfl
 |cons a l J=>rw[dt,List.map_cons,J];rfl
theorem zz:∀(ts:List Tree) (m:Nat),(∀t∈ts,(t.kids.map Tree.text).Nodup)->(aj m ts).Pairwise fun d e=>d.module=e.module->d.t.text≠e.t.text
 |[],m,_=>by rw[aj];exact B1
 |t::ts,m,h=>by
  rw[aj,List.pairwise_append];refine⟨?_,zz ts (m+1) fun u J=>h u (cW _ J),fun a ha b G e=> ?_⟩;·have:=h t eu;rw[<-GG m 1,List.Nodup,List.pairwise_map]at this;exact pk (S:=fun(d e:cF)=>d.module=e.module->d.t.text≠e.t.text) (fun h _=>h) this
  ·have h1:=(rM t.kids 1 a ha).1;have h2:=(mT ts (m+1) b G).1;omega
theorem GH{ts:List Tree}(h:∀t∈ts,(t.kids.map Tree.text).Nodup)(i j:Nat)(G:i<(aj 0 ts).length)(hj:j<(aj 0 ts).length)(h1:((aj 0 ts).getD i default).module=((aj 0 ts).getD j default).module)(h2:((aj 0 ts).getD i default).t.text=((aj 0 ts).getD j default).t.text):i=j:=by
 have:=zz ts 0 h;rw[List.pairwise_iff_getElem]at this;simp only[bb,aE G,aE hj,BW]at h1 h2;rcases Nat.lt_trichotomy i j with e|e|e;·exact absurd h2 (this i j G hj e h1)
 ·exact e
 ·exact absurd h2.symm (this j i hj G e h1.symm)
theorem zA(m:Nat):∀(G:List Tree) (n j:Nat),n<=j->j<n+ax G->∃d∈dt m n G,d.number<=j/\j<d.number+d.t.size
 |[],n,j,h1,h2=>by rw[ax]at h2;omega
 |t::ts,n,j,h1,h2=>by
  rw[gR]at h2;rw[dt];by_cases e:j<n+t.size;·exact⟨_,eu,h1,e⟩
  ·obtain⟨d,hd,q⟩:=zA m ts (n+t.size) j (by omega) (by omega);exact⟨d,cW _ hd,q⟩
theorem zB:∀(ts:List Tree) (k m j:Nat),m<ts.length->0<j->j<(ts.getD m default).size->∃d∈aj k ts,d.module=k+m/\d.number<=j/\j<d.number+d.t.size
 |[],k,m,j,hm,_,_=>by simp at hm
 |t::ts,k,m,j,hm,G,hj=>by
  rw[aj];cases m with
  |zero=>simp only[List.getD_cons_zero]at hj;have:=t.size_eq;obtain⟨d,hd,q⟩:=zA k t.kids 1 j (by omega) (by omega);exact⟨d,List.mem_append_left _ hd,(rM t.kids 1 d hd).1,q⟩
  |succ m=>simp only[List.getD_cons_succ]at hj;obtain⟨d,hd,h1,q⟩:=zB ts (k+1) m j (by simpa using hm) G hj;exact⟨d,List.mem_append_right _ hd,by omega,q⟩
def cN(ot nt:List Tree):bp:=⟨aA ot.length (-1),aA nt.length (-1),aA (aj 0 ot).length (-1),aA (aj 0 nt).length (-1),ot.map fun t=>aA t.size false,nt.map fun t=>aA t.size false,nt.map fun t=>aA t.size (-1,0),0,0⟩
def eD(ck:Int->ByteArray->List Nat->ByteArray)(budget:Int)(ot nt:List Tree):bp:=
 lc ck (aj 0 ot) (aj 0 nt) (kw budget ot nt (l4 budget ot nt (l5 ot nt (cN ot nt))))
theorem getD_at{α:Type}{l:List α}{d:α}{i:Nat}(G:i<l.length):l.getD i d=l[i]:=by rw[bb,aE G];rfl
theorem GI(ot ts:List Tree)(D:Nat->Nat->Prop)(G:∀a b,¬D a b)(O:ts.length=ot.length)(nt:List Tree)(hn:nt.length=ts.length)(hz:∀i,i<ts.length->(nt.getD i default).size=(ts.getD i default).size):e5 ts D (cN ot nt):=by
 refine⟨by simp[cN,hn],by simp[cN,hn],fun i J=> ?_,fun i J=> ?_,fun m j _ _ h=>(G _ _ h).elim,fun m j _ _ h=>(G _ _ h).elim⟩
 all_goals
  rw[<-hz i J];simp[cN,bb,List.getElem?_map,aE (show i<nt.length by omega)]
theorem GJ{ts J:List Tree}(aj:(ts.map Tree.text).Nodup)(Y:J.map Tree.text=ts.map Tree.text):iC ts J (cN ts J)={cN ts J with om:=cd ts.length fun _=>true,nm:=cd ts.length fun _=>true}:=by
 have ab:J.length=ts.length:=by have:=congrArg List.length Y;simpa using this
 have O:∀(l:List Tree) i,i<l.length->(l.getD i default).text=(l.map Tree.text).getD i ⟨#[]⟩:=fun l i G=>by rw[getD_at G,getD_at (by simpa using G),List.getElem_map]
 unfold iC;simp only[cN];rw[ab];rw[zt ts.length (eC ts) (eC J) (fun i=>(0,0,(ts.getD i default).text)) (fun i=>(0,0,(ts.getD i default).text)) (fun _=>true) (fun i _=>rfl) (fun i G=>by unfold eC;rw[O J i (by omega),O ts i G,Y]) (fun i j G hj e=> ?_) (fun _ _ _=>rfl) (fun _ _ h=>by cases h)];·rw[zu (rS _) (rS _)]
 ·simp only[jg,true_and]at e;rw[O ts i G,O ts j hj,getD_at (by simpa using G),getD_at (by simpa using hj)]at e;exact(List.getElem_inj aj).1 e
section
variable {ck:Int->ByteArray->List Nat->ByteArray}
end
theorem A2{α:Type}(a b c d:α):∀(i:Nat) (l:List α),i+4<=l.length->((((l.set i a).set (i+1) b).set (i+2) c).set (i+3) d).take (i+4)=l.take i++[a,b,c,d]
 |0,G::J::O::Y::l,_=>by simp
 |0,[],h=>by simp at h
 |0,[_],h=>by simp at h
 |0,[_,_],h=>by simp at h
 |0,[_,_,_],h=>by simp at h
 |i+1,[],h=>by simp at h
 |i+1,x::l,h=>by have:=A2 a b c d i l (by simp at h;omega);simp only[List.set_cons_succ,Nat.add_right_comm i 1,List.take_succ_cons,List.cons_append];rw[this]
def sr(ts us:List Tree):Prop:=aN us=aN ts/\∀u∈us,u.lb
theorem vh(a b:List Tree):aN (a++b)=aN a++aN b:=by rw[iY,iY,iY,List.map_append]
theorem sr.next{ts us:List Tree}{j:Nat}{u:Tree}(h:sr (ts.take j) us)(hj:j<ts.length)(e:u.bare=ts[j].bare)(G:u.lb):sr (ts.take (j+1)) (us++[u]):=by
 refine⟨?_,fun x hx=> ?_⟩;·rw[vh,h.1,List.take_add_one,aE hj,vh];simp[aN,e]
 ·rcases xm.1 hx with hx|hx;·exact h.2 x hx
  ·rw[List.mem_singleton.1 hx];exact G
structure eE(h:Hp)(w:World)(t:Tree)(cT:Array Value)(bu:Nat)(lv kv:Value)(L:Nat)(h1:Hp)(wr:World)(j:Nat)(ls xs:List Value):Prop where
 st:St w.heap.size h w h1 wr
 tb:Has wr w.heap.size cT
 rb:Has wr (w.heap.size+1) #[af ae 0,ah ⟨#[]⟩,ag none 0 0,ag none 0 0]
 ub:Has wr bu #[af ae t.kind,ah t.text,lv,ag none 0 0]
 rn:h1 (w.heap.size+1)=none
 un:h1 bu=none
 blt:w.heap.size+1<bu
 lo:Ow wr h1 (w.heap.size+2) 9 1 lv L ls
 jY:PcV ls
 ko:Ow wr h1 (w.heap.size+2) 26 4 kv t.kids.length xs
 lu:lv.ownBlock≠some bu
 ku:kv.ownBlock≠some bu
 lk:∀g,lv.ownBlock=some g->kv.ownBlock≠some g
 kids:∃us,us.length=j/\aJ (bg h1) us (xs.take (j*4))/\sr (t.kids.take j) us
structure lx(h:Hp)(w:World)(t:Tree)(cT:Array Value)(bu:Nat)(lv:Value)(L:Nat)(wr:World)(ls:List Value):Prop where
 st:St w.heap.size h w h wr
 tb:Has wr w.heap.size cT
 rb:Has wr (w.heap.size+1) #[af ae 0,ah ⟨#[]⟩,ag none 0 0,ag none 0 0]
 ub:Has wr bu #[af ae t.kind,ah t.text,lv,ag none 0 0]
 un:h bu=none
 blt:w.heap.size+1<bu
 lo:Ow wr h (w.heap.size+2) 9 1 lv L ls
 jY:PcV ls
 lu:lv.ownBlock≠some bu
theorem lx.late{h:Hp}{w w0 J:World}{t:Tree}{cT:Array Value}{lv:Value}{L:Nat}{ls:List Value}(s0:St w.heap.size h w h w0)(ab:Has w0 w.heap.size cT)(r0:Has w0 (w.heap.size+1) #[af ae 0,ah ⟨#[]⟩,ag none 0 0,ag none 0 0])(O:Ow J h w0.drew.heap.size 9 1 lv L ls)(Y:PcV ls)(G:St w0.drew.heap.size h w0.drew h J):lx h w t cT J.heap.size lv L (J.alloc (.cells #[af ae t.kind,ah t.text,lv,ag none 0 0] 26)) ls:=by have aj:w.heap.size+1<w0.heap.size:=r0.lt;have ak:w0.heap.size<=J.heap.size:=G.below.size;exact⟨(s0.drew.call G).alloc _,(ab.drew.below G.below).alloc _,(r0.drew.below G.below).alloc _,Has.new _ _ _,bI G.I _ (kI _),by omega,(O.base (by show _<=w0.heap.size;omega)).alloc _,Y,fun e=>by have:=(O.lt _ e).2;omega⟩
theorem lx.early{h:Hp}{w w0 Y:World}{t:Tree}{cT:Array Value}{lv:Value}{L:Nat}{ls:List Value}{U:Array Value}{T:TypeId}(am:U= #[af ae 0,ah ⟨#[]⟩,ag none 0 0,ag none 0 0])(s0:St w.heap.size h w h w0)(aB:Has w0 w.heap.size cT)(r0:Has w0 (w.heap.size+1) #[af ae 0,ah ⟨#[]⟩,ag none 0 0,ag none 0 0])(aj:Ow Y h (w0.drew.alloc (.cells U T)).heap.size 9 1 lv L ls)(ao:PcV ls)(O:St (w0.drew.alloc (.cells U T)).heap.size h (w0.drew.alloc (.cells U T)) h Y):lx h w t cT w0.heap.size lv L ((((Y.setCell ⟨w0.heap.size,0,none⟩ (af ae t.kind)).setCell ⟨w0.heap.size,1,none⟩ (ah t.text)).setCell ⟨w0.heap.size,2,none⟩ lv).setCell ⟨w0.heap.size,3,none⟩ (ag none 0 0)) ls:=by
 subst am;have aJ:w.heap.size+1<w0.heap.size:=r0.lt;have ab:(w0.drew.alloc (.cells #[af ae 0,ah ⟨#[]⟩,ag none 0 0,ag none 0 0] T)).heap.size=w0.heap.size+1:=by simp
 have ak:Has Y w0.heap.size #[af ae 0,ah ⟨#[]⟩,ag none 0 0,ag none 0 0]:=(Has.new w0.drew #[af ae 0,ah ⟨#[]⟩,ag none 0 0,ag none 0 0] T).below O.below;have hn:h w0.heap.size=none:=bI s0.I _ (kI _);have st:=(s0.drew.alloc (.cells #[af ae 0,ah ⟨#[]⟩,ag none 0 0,ag none 0 0] T)).call O;have G:lv.ownBlock≠some w0.heap.size:=fun e=>by have:=(aj.lt _ e).1;rw[ab]at this;omega
 have aG:=(aB.drew.alloc (.cells #[af ae 0,ah ⟨#[]⟩,ag none 0 0,ag none 0 0] T)).below O.below;have ax:=(r0.drew.alloc (.cells #[af ae 0,ah ⟨#[]⟩,ag none 0 0,ag none 0 0] T)).below O.below;have J:w.heap.size<=w0.heap.size:=by omega
 exact⟨(((st.setCell (p:=⟨w0.heap.size,0,none⟩) J hn _).setCell (p:=⟨w0.heap.size,1,none⟩) J hn _).setCell (p:=⟨w0.heap.size,2,none⟩) J hn _).setCell (p:=⟨w0.heap.size,3,none⟩) J hn _,(((aG.ne (by omega) _ _).ne (by omega) _ _).ne (by omega) _ _).ne (by omega) _ _,(((ax.ne (by omega) _ _).ne (by omega) _ _).ne (by omega) _ _).ne (by omega) _ _,ak.aM _ _ _ _,hn,by omega,
  (((aj.base (by rw[ab];omega)).setCell G _|>.setCell G _).setCell G _).setCell G _,ao,G⟩
theorem lx.made{h:Hp}{w wr w2:World}{t:Tree}{cT:Array Value}{bu:Nat}{lv kv:Value}{L:Nat}{ls xs:List Value}(a:lx h w t cT bu lv L wr ls)(rn:h (w.heap.size+1)=none)(b:Below wr.heap.size wr w2)(G:Ow w2 h wr.heap.size 26 4 kv t.kids.length xs):eE h w t cT bu lv kv L h w2 0 ls xs:=by have Y:=a.blt;have ab:=a.ub.lt;exact⟨a.st.same b,a.tb.below b,a.rb.below b,a.ub.below b,rn,a.un,a.blt,a.lo.same b,a.jY,G.base (by omega),a.lu,fun e=>by have:=(G.lt _ e).1;omega,fun g e J=>by have:=(a.lo.lt g e).2;have:=(G.lt g J).1;omega,[],rfl,by simp[aJ],by simp[aN],fun u O=>by cases O⟩
section
variable {h h1 h2:Hp} {w wr w2:World} {t:Tree} {cT:Array Value} {bu L j:Nat} {lv kv:Value} {ls xs:List Value}
theorem eE.call(a:eE h w t cT bu lv kv L h1 wr j ls xs)(s:St wr.heap.size h1 wr h2 w2):eE h w t cT bu lv kv L h2 w2 j ls xs:=
 ⟨a.st.call s,a.tb.below s.below,a.rb.below s.below,a.ub.below s.below,(s.aI _ a.rb.lt).trans a.rn,(s.aI _ a.ub.lt).trans a.un,a.blt,a.lo.call s,a.jY,a.ko.call s,a.lu,a.ku,a.lk,by obtain⟨us,G,J,O⟩:=a.kids;exact⟨us,G,J.mono fun _ _ r=>r.mono s.le,O⟩⟩
theorem eE.below(a:eE h w t cT bu lv kv L h1 wr j ls xs)(b:Below wr.heap.size wr w2):eE h w t cT bu lv kv L h1 w2 j ls xs:=a.call (St.pI a.st.I b)
theorem eE.drew(a:eE h w t cT bu lv kv L h1 wr j ls xs):eE h w t cT bu lv kv L h1 wr.drew j ls xs:=a.below (Below.refl _ _).drew
theorem eE.lead{G J:Nat}(a:eE h w t cT bu (ag (some ⟨G,0,none⟩) L J) kv L h1 wr j ls xs)(i:Nat)(O:i<L)(s:ByteArray)(hs:Sh1 s):eE h w t cT bu (ag (some ⟨G,0,none⟩) L J) kv L h1 (wr.setCell ⟨G,i,none⟩ (ah s)) j (ls.set i (ah s)) xs:=by
 have Y:=(a.lo.lt G rfl).1;have hf:=a.lo.free G rfl;refine⟨a.st.setCell (p:=⟨G,i,none⟩) (by show _<=G;omega) hf _,a.tb.ne (by omega) _ _,a.rb.ne (by omega) _ _,a.ub.ne (fun e=>a.lu (by rw[<-e];rfl)) _ _,a.rn,a.un,a.blt,a.lo.set i _ (by omega),fun v hv=> ?_,a.ko.setCell (fun e=>a.lk G rfl e) _,a.lu,a.ku,a.lk,a.kids⟩;rcases List.mem_or_eq_of_mem_set hv with hv|hv;·exact a.jY v hv
 ·exact⟨s,hv,hs⟩
theorem eE.b4{gk ck:Nat}{u:Tree}{v0 Y ab aj:Value}(a:eE h w t cT bu lv (ag (some ⟨gk,0,none⟩) t.kids.length ck) L h1 wr j ls xs)(hj:j<t.kids.length)(aB:bg h1 u [v0,Y,ab,aj])(e:u.bare=t.kids[j].bare)(ax:u.lb):eE h w t cT bu lv (ag (some ⟨gk,0,none⟩) t.kids.length ck) L h1 ((((wr.setCell ⟨gk,j*4,none⟩ v0).setCell ⟨gk,j*4+1,none⟩ Y).setCell ⟨gk,j*4+2,none⟩ ab).setCell ⟨gk,j*4+3,none⟩ aj) (j+1) ls ((((xs.set (j*4) v0).set (j*4+1) Y).set (j*4+2) ab).set (j*4+3) aj):=by
 have aG:=(a.ko.lt gk rfl).1;have hf:=a.ko.free gk rfl;have G:∀{q:World} (i:Nat) (v:Value),St w.heap.size h w h1 q->St w.heap.size h w h1 (q.setCell ⟨gk,i,none⟩ v):=fun i v s=>s.setCell (p:=⟨gk,i,none⟩) (by show _<=gk;omega) hf _;have J:gk≠bu:=fun e=>a.ku (by rw[<-e];rfl);have O:lv.ownBlock≠some gk:=fun e=>a.lk gk e rfl;have hx:=a.ko.len
 refine⟨G _ _ (G _ _ (G _ _ (G _ _ a.st))),(((a.tb.ne (by omega) _ _).ne (by omega) _ _).ne (by omega) _ _).ne (by omega) _ _,(((a.rb.ne (by omega) _ _).ne (by omega) _ _).ne (by omega) _ _).ne (by omega) _ _,(((a.ub.ne J _ _).ne J _ _).ne J _ _).ne J _ _,a.rn,a.un,a.blt,
  (((a.lo.setCell O _).setCell O _).setCell O _).setCell O _,a.jY,(((a.ko.set _ v0 (by omega)).set _ Y (by omega)).set _ ab (by omega)).set _ aj (by omega),a.lu,a.ku,a.lk,?_⟩
 obtain⟨us,ak,am,ao⟩:=a.kids;refine⟨us++[u],by simp[ak],?_,ao.next hj e ax⟩;rw[show(j+1)*4=j*4+4 by omega,A2 _ _ _ _ _ _ (by omega)];exact am.append (aJ.one aB)
end
theorem eE.slot{h h1:Hp}{w wr:World}{t:Tree}{cT:Array Value}{bu L j:Nat}{lv:Value}{ls xs:List Value}{gk ck:Nat}(a:eE h w t cT bu lv (ag (some ⟨gk,0,none⟩) t.kids.length ck) L h1 wr j ls xs)(hj:j<t.kids.length):
  ∃G J O Y,(wr.cell? ⟨gk,j*4,none⟩=some G/\wr.cell? ⟨gk,j*4+1,none⟩=some J/\wr.cell? ⟨gk,j*4+2,none⟩=some O/\wr.cell? ⟨gk,j*4+3,none⟩=some Y)/\
   wr.frozen? ⟨gk,j*4,none⟩=false/\wr.frozen? ⟨gk,j*4+1,none⟩=false/\wr.frozen? ⟨gk,j*4+2,none⟩=false/\wr.frozen? ⟨gk,j*4+3,none⟩=false/\w.heap.size≠gk/\gk≠w.heap.size/\h1 gk=none:=by
 obtain⟨g,e,ab,_,hn,hc,hf⟩:=a.ko.cell (by omega);simp only[aC,cx,and_true]at e;subst e;have hx:=a.ko.len;exact⟨_,_,_,_,⟨hc _ _ (aE (by omega)),hc _ _ (aE (by omega)),hc _ _ (aE (by omega)),hc _ _ (aE (by omega))⟩,hf _,hf _,hf _,hf _,by omega,by omega,hn⟩
theorem eE.oh{h h1:Hp}{w wr:World}{t:Tree}{cT:Array Value}{bu L j:Nat}{kv:Value}{ls xs:List Value}{G:Option Addr}{O:Nat}(a:eE h w t cT bu (ag G L O) kv L h1 wr j ls xs)(i:Nat)(ab:i<L):∃g y,G=some ⟨g,0,none⟩/\wr.cell? ⟨g,i,none⟩=some y/\(∀q,wr.frozen? ⟨g,q,none⟩=false)/\(∀q,q<L->∃y,wr.cell? ⟨g,q,none⟩=some y)/\w.heap.size≠g/\g≠w.heap.size/\bu≠g/\g≠bu:=by obtain⟨g,e,Y,_,hn,hc,hf⟩:=a.lo.cell (by omega);subst e;have hx:=a.lo.len;have J:g≠bu:=fun e=>a.lu (by rw[<-e];rfl);exact⟨g,_,rfl,hc _ _ (aE (by omega)),hf,fun q aj=>⟨_,hc _ _ (aE (by omega))⟩,by omega,by omega,fun e=>J e.symm,J⟩
theorem Sl.bi{h:Hp}{b off m J n k:Nat}{cs:List Value}(s:Sl h (ag (some ⟨b,off,none⟩) m J) n k cs)(hn:0<n):∃c,h b=some c:=by
 obtain⟨a,c,e,_,_,G⟩:=s;simp only[bU]at e;obtain⟨rfl,rfl,rfl⟩:=e;rcases G with G|⟨b',Y,c',e,O,_⟩;·omega
 ·simp only[aC,cx,and_true]at e;exact⟨c',by rw[e.1];exact O⟩
def A3(h:Hp)(w:World)(t:Tree)(e:Ending)(w':World):Prop:=∃v' h' t',e= .returned v'/\St w.heap.size h w h' w'/\aP h' v' t'/\t'.bare=t.bare/\t'.lb
theorem Lu:∀{xs:List Value},PcV xs->∃l:List ByteArray,xs=l.map ah/\∀s∈l,s.size<=1000
 |[],_=>⟨[],rfl,fun _ h=>by cases h⟩
 |x::xs,h=>by
  obtain⟨s,rfl,hs⟩:=h x eu;obtain⟨l,e,J⟩:=Lu (xs:=xs) fun v hv=>h v (cW _ hv);refine⟨s::l,by rw[e];rfl,fun q G=> ?_⟩;rcases List.mem_cons.1 G with rfl|G;·exact hs
  ·exact J q G
theorem eE.fin{h h1:Hp}{w wr:World}{t:Tree}{cT:Array Value}{bu L:Nat}{lv kv:Value}{ls xs:List Value}(a:eE h w t cT bu lv kv L h1 wr t.kids.length ls xs)(aM:aG t.kind)(aT:L<=1000000)(hn:t.kids.length<=140737488355328)(O:Value):A3 h w t (.returned (.agg #[af ae t.kind,ah t.text,lv,kv])) (((((wr.setCell ⟨bu,3,none⟩ O).setCell ⟨w.heap.size+1,0,none⟩ (af ae t.kind)).setCell ⟨w.heap.size+1,1,none⟩ (ah t.text)).setCell ⟨w.heap.size+1,2,none⟩ lv).setCell ⟨w.heap.size+1,3,none⟩ kv):=by
 have aV:=a.blt;have aS:=a.st.setCell (p:=⟨bu,3,none⟩) (by show _<=bu;omega) a.un O;have aJ:=(((aS.setCell (p:=⟨w.heap.size+1,0,none⟩) (my _) a.rn (af ae t.kind)).setCell (p:=⟨w.heap.size+1,1,none⟩) (my _) a.rn (ah t.text)).setCell (p:=⟨w.heap.size+1,2,none⟩) (my _) a.rn lv).setCell (p:=⟨w.heap.size+1,3,none⟩) (my _) a.rn kv;have J:lv.ownBlock≠some (w.heap.size+1):=fun e=>by have:=(a.lo.lt _ e).1;omega
 have G:kv.ownBlock≠some (w.heap.size+1):=fun e=>by have:=(a.ko.lt _ e).1;omega
 have aQ:=((((a.lo.setCell (p:=⟨bu,3,none⟩) a.lu O).setCell (p:=⟨w.heap.size+1,0,none⟩) J (af ae t.kind)).setCell (p:=⟨w.heap.size+1,1,none⟩) J (ah t.text)).setCell (p:=⟨w.heap.size+1,2,none⟩) J lv).setCell (p:=⟨w.heap.size+1,3,none⟩) J kv;have aO:=((((a.ko.setCell (p:=⟨bu,3,none⟩) a.ku O).setCell (p:=⟨w.heap.size+1,0,none⟩) G (af ae t.kind)).setCell (p:=⟨w.heap.size+1,1,none⟩) G (ah t.text)).setCell (p:=⟨w.heap.size+1,2,none⟩) G lv).setCell (p:=⟨w.heap.size+1,3,none⟩) G kv;have aB:=(aQ.base (B':=w.heap.size) (by omega)).sl (by omega);have aP:=(aO.base (B':=w.heap.size) (by omega)).sl hn;obtain⟨us,aL,ak,Y⟩:=a.kids;have hx:=a.ko.len;rw[List.take_of_length_le (by omega)]at ak;rw[List.take_length]at Y;obtain⟨l,am,aN⟩:=Lu a.jY;obtain⟨al,aj,rfl⟩:=a.lo.shape;obtain⟨ab,ck,rfl⟩:=a.ko.shape;have ao:l.length=L:=by have:=a.lo.len;rw[am,List.length_map]at this;omega
 have ax:us.length=t.kids.length:=aL;refine⟨_,_,.node t.kind t.text l us,rfl,aJ.fr,⟨[af ae t.kind,ah t.text,ag al L aj,ag ab t.kids.length ck],rfl,?_⟩,?_,?_⟩
 ·rw[bg.iff];refine⟨al,aj,ab,ck,xs,?_,aM,?_,?_,ak.mono fun _ _ r=>r.mono (Hp.gQ aJ.I)⟩;·simp only[Tree.kind,Tree.text,Tree.leads,Tree.kids,ao,ax]
  ·simp only[Tree.leads,ao];rw[am]at aB;exact aB
  ·simp only[Tree.kids,ax];exact aP
 ·cases t;rw[Tree.bare,Tree.bare];have:=Y.1;simp only[Tree.kids,Tree.kind,Tree.text]at this⊢;rw[this]
 ·rw[Tree.lb];exact⟨⟨by omega,aN⟩,u6 Y.2⟩
end Go.Proofs.YtdplggpbgommnaaGreatDoor
