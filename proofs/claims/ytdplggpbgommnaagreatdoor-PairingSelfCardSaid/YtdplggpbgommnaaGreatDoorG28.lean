/- Subtrees of one class have the same kinds: the text of a node tells its kind and the classes of its kids. -/
import Derived.Test.YtdplggpbgommnaaGreatDoorG27
open Go.IntKind renaming i64→ae
open Go.Lib renaming PrintTabs→fq,decDigits→pz,itoa→eQ,quoteFrom→Cd
open Go.Value renaming ownBlock→bW
open Go.Value.agg renaming injEq→oG
open List renaming append_assoc→fI,cons_append→hv,flatMap_cons→fH,foldl_cons→dK,foldl_nil→fk,getD_eq_getElem?_getD→bb,getElem?_append_left→jD,getElem?_eq_getElem→aE,getElem?_eq_none→gM,length_append→cI,length_cons→bF,length_drop→pq,length_map→dL,length_take→mb,map_append→gO,map_cons→cR,map_nil→KS,mem_append→ev,mem_cons_of_mem→cW,mem_cons_self→eu,mem_cons→b8,mem_singleton→eR,nil_append→ji,prefix_rfl→Ce,range→aw,replicate_succ'→KH,replicate→aA
open List.cons renaming inj→pA
open Nat renaming add_assoc→bP,le_refl→an,lt_or_ge→b7,mod_lt→Cc,strongRecOn→KT,sub_self→kH
open Option.some renaming inj→aU
open UInt8 renaming toNat_ofNat'→sR
namespace Go.Proofs.YtdplggpbgommnaaGreatDoor
open Go.RowKit
def jx:List UInt8→Option (List UInt8)
 |[]=>none
 |c::r=>if c=92 then(match r with|[]=>none|_::r=>jx r)else if c=34 then some r else jx r
theorem GL(z:UInt8)(r:List UInt8):jx (92::z::r)=jx r:=by simp[jx]
theorem GM(r:List UInt8):jx (34::r)=some r:=by unfold jx;rw[if_neg (by decide),if_pos rfl]
theorem GN(c:UInt8)(r:List UInt8)(h1:c≠92)(h2:c≠34):jx (c::r)=jx r:=by rw[jx.eq_def];simp only;rw[if_neg h1,if_neg h2]
def u8(n:Int):UInt8:=UInt8.ofNat n.toNat
def bT(l:List Int):Prop:=∀r,jx (l.map u8++r)=jx r
def Safe(z:Int):Prop:=0≤z∧z≤255∧z≠34∧z≠92
theorem zC{z:Int}{n:Nat}(A:0≤z)(h1:z≤255)(E:n<256)(h:z≠n):u8 z≠UInt8.ofNat n:=by unfold u8;intro e;have:=congrArg UInt8.toNat e;simp only[sR]at this;omega
theorem bT.nil:bT []:=fun _=>rfl
theorem bT.safe{z:Int}(h:Safe z){l:List Int}(A:bT l):bT (z::l):=fun r=>by have h1:u8 z≠92:=zC (n:=92) h.1 h.2.1 (by omega) h.2.2.2;have h2:u8 z≠34:=zC (n:=34) h.1 h.2.1 (by omega) h.2.2.1;rw[cR,hv,GN _ _ h1 h2];exact A r
theorem bT.jy(z:Int){l:List Int}(A:bT l):bT (92::z::l):=fun r=>by rw[cR,cR,hv,hv];exact(GL _ _).trans (A r)
theorem bT.append{a b:List Int}(A:bT a)(E:bT b):bT (a++b):=fun r=>by rw[gO,fI,A,E]
theorem bT.all{l:List Int}(h:∀z∈l,Safe z):bT l:=by
 induction l with
 |nil=>exact bT.nil
 |cons a l A=>exact bT.safe (h a eu) (A fun z hz=>h z (cW _ hz))
theorem qi{x:Nat}(h:x<16):Safe (Lib.hexDigit x):=by unfold Lib.hexDigit Safe;split<;>omega
theorem uU(r n:Nat):bT (Lib.hexDigits r n):=by
 induction n with
 |zero=>exact bT.nil
 |succ n A=>rw[Lib.hexDigits];exact bT.safe (qi (Cc _ (by omega))) A
theorem GO{r:Int}(h1:r≠34)(h2:r≠92):bT (Lib.encodeRuneZ r):=by
 apply bT.all;unfold Lib.encodeRuneZ Safe;intro z hz;split at hz;·simp at hz;omega
 split at hz;·simp at hz;omega
 split at hz;·simp at hz;omega
 split at hz;·simp at hz;omega
 ·simp at hz;omega
theorem GQ(T:fq){r:Int}(_h0:0≤r):bT (Lib.escRune T r):=by
 unfold Lib.escRune;by_cases A:r=34∨r=92;·rw[if_pos A];exact bT.jy _ bT.nil
 rw[if_neg A];by_cases c1:Lib.isPrintR T r=true;·rw[if_pos c1];exact GO (fun e=>A (.inl e)) fun e=>A (.inr e)
 rw[if_neg c1];by_cases c2:r=7;·rw[if_pos c2];exact bT.jy _ bT.nil
 rw[if_neg c2];by_cases c3:r=8;·rw[if_pos c3];exact bT.jy _ bT.nil
 rw[if_neg c3];by_cases c4:r=12;·rw[if_pos c4];exact bT.jy _ bT.nil
 rw[if_neg c4];by_cases c5:r=10;·rw[if_pos c5];exact bT.jy _ bT.nil
 rw[if_neg c5];by_cases M:r=13;·rw[if_pos M];exact bT.jy _ bT.nil
 rw[if_neg M];by_cases O:r=9;·rw[if_pos O];exact bT.jy _ bT.nil
 rw[if_neg O];by_cases Y:r=11;·rw[if_pos Y];exact bT.jy _ bT.nil
 rw[if_neg Y];by_cases ab:r<32∨r=127;·rw[if_pos ab];exact bT.jy _ (bT.safe (qi (by omega)) (bT.safe (qi (Cc _ (by omega))) bT.nil))
 rw[if_neg ab];by_cases E:Lib.validRune r=false;·rw[if_pos E];exact bT.jy _ (uU _ _)
 rw[if_neg E];by_cases G:r<65536;·rw[if_pos G];exact bT.jy _ (uU _ _)
 rw[if_neg G];exact bT.jy _ (uU _ _)
theorem step_skip(T:fq)(s:ByteArray):bT (Lib.quoteStep T s):=by
 unfold Lib.quoteStep;split;·have:=UInt8.toNat_lt (s.get! 0);exact bT.jy _ (bT.safe (qi (by omega)) (bT.safe (qi (Cc _ (by omega))) bT.nil))
 ·exact GQ T (by omega)
theorem zD(T:fq):∀(f:Nat) (s:ByteArray),bT (Cd T f s)
 |0,_=>bT.nil
 |f+1,s=>by
  rw[Cd];split;·exact(step_skip T s).append (zD T f _)
  ·exact bT.nil
theorem zE(T:fq)(s:ByteArray)(r:List UInt8):∃q,mB T s++r=34::q∧jx q=some r:=by
 refine⟨(Cd T s.size s).map u8++(34::r),?_,?_⟩;·unfold mB Lib.quoteZ;simp only[cR,gO,KS,hv,fI,ji];rfl
 ·rw[zD T _ _ (34::r),GM]
theorem uV(u:Nat):∀b∈pz u,48≤b.toNat∧b.toNat≤57:=by
 induction u using KT with
 |ind u E=>
  intro b A;rw[pz]at A;split at A;·have:=eR.1 A;subst this;rw[sR];omega
  ·rcases ev.1 A with A|A;·exact E (u/10) (by omega) b A
   ·have:=eR.1 A;subst this;rw[sR];omega
theorem zF(u:Nat):(pz u).foldl (fun a b=>a*10+(b.toNat-48)) 0=u:=by
 induction u using KT with
 |ind u A=>
  rw[pz];split;·rw[dK,fk,sR];omega
  ·rw[List.foldl_append,A (u/10) (by omega)];rw[dK,fk,sR];omega
theorem zG{u v:Nat}(h:pz u=pz v):u=v:=by rw[←zF u,h,zF]
theorem rV(n:Int):∀b∈eQ n,b≠32:=by
 intro b A e;subst e;unfold eQ at A;split at A
 ·rcases b8.1 A with h|h;·cases h
  ·exact absurd (uV _ _ h).1 (by decide)
 ·exact absurd (uV _ _ A).1 (by decide)
theorem zH:∀(u:Nat) (r:List UInt8),45::r≠pz u:=fun u r e=>by have:=uV u 45 (by rw[←e];exact eu);exact absurd this.1 (by decide)
theorem zI{a b:Int}(h:eQ a=eQ b):a=b:=by
 unfold eQ at h;split at h<;>split at h;·have:=zG (pA h).2;omega
 ·exact absurd h (zH _ _)
 ·exact absurd h.symm (zH _ _)
 ·have:=zG h;omega
theorem zJ{a b x y:List UInt8}(E:∀c∈a,c≠32)(G:∀c∈b,c≠32)(Y:x=[]∨∃r,x=32::r)(hy:y=[]∨∃r,y=32::r)(h:a++x=b++y):a=b∧x=y:=by
 induction a generalizing b with
 |nil=>
  cases b with
  |nil=>exact⟨rfl,h⟩
  |cons c b=>
   rw[ji]at h;rcases Y with rfl|⟨r,rfl⟩;·cases h
   ·exact absurd (pA h).1.symm (G c eu)
 |cons d a ab=>
  cases b with
  |nil=>
   rw[ji]at h;rcases hy with rfl|⟨r,rfl⟩;·cases h
   ·exact absurd (pA h).1 (E d eu)
  |cons c b=>obtain⟨h1,h2⟩:=pA h;obtain⟨M,O⟩:=ab (fun c A=>E c (cW _ A)) (fun c A=>G c (cW _ A)) h2;exact⟨by rw[h1,M],O⟩
theorem zK(cs:List Nat):(cs.flatMap fun(c:Nat)=>32::eQ c)=[]∨∃r,(cs.flatMap fun(c:Nat)=>32::eQ c)=32::r:=by
 cases cs with
 |nil=>exact .inl rfl
 |cons a l=>exact .inr ⟨_,by rw[fH];rfl⟩
theorem zL:∀(cs ds:List Nat),(cs.flatMap fun(c:Nat)=>32::eQ c)=(ds.flatMap fun(c:Nat)=>32::eQ c)→cs=ds
 |[],[],_=>rfl
 |[],d::ds,h=>by rw[fH]at h;cases h
 |c::cs,[],h=>by rw[fH]at h;cases h
 |c::cs,d::ds,h=>by rw[fH,fH,hv,hv]at h;obtain⟨A,E⟩:=zJ (rV _) (rV _) (zK _) (zK _) (pA h).2;have:=zI A;rw[zL cs ds E];congr 1;omega
theorem GR(T:fq){k E:Int}{s s':ByteArray}{cs A:List Nat}(h:pE T k s cs=pE T E s' A):k=E∧cs=A:=by
 unfold pE at h;obtain⟨G,M⟩:=zJ (rV _) (rV _) (.inr ⟨_,rfl⟩) (.inr ⟨_,rfl⟩) h;refine⟨zI G,zL _ _ ?_⟩;have O:=(pA M).2;obtain⟨q,h1,h2⟩:=zE T s (cs.flatMap fun(c:Nat)=>32::eQ c);obtain⟨ad,ab,ac⟩:=zE T s' (A.flatMap fun(c:Nat)=>32::eQ c);have Y:34::q=34::ad:=by rw[←h1,←ab];exact O
 have:=(pA Y).2;rw[this,ac]at h2;exact(aU h2).symm
section
variable {ck:Int→ByteArray→List Nat→ByteArray}
mutual
theorem GU{m:Nat}:∀(t:Tree) (n:Nat) (kn:List ByteArray),∀x∈(cS ck m t n kn).1,x.J=m
 | .node k s l E,n,kn,x,A=>by
  rw[cS]at A;rcases b8.1 A with rfl|A;·rfl
  ·exact uW E (n+1) kn x A
theorem uW{m:Nat}:∀(ts:List Tree) (n:Nat) (kn:List ByteArray),∀x∈(bz ck m ts n kn).1,x.J=m
 |[],n,kn,x,A=>by rw[bz]at A;cases A
 |t::ts,n,kn,x,A=>by
  rw[bz]at A;rcases ev.1 A with A|A;·exact GU t n kn x A
  ·exact uW ts _ _ x A
end
end
def nY(ck:Int→ByteArray→List Nat→ByteArray):Prop:=∀⦃k k' s s' cs cs'⦄,ck k s cs=ck k' s' cs'→k=k'∧cs=cs'
section
variable (ck:Int→ByteArray→List Nat→ByteArray)
mutual
def dU(kn:List ByteArray):Tree→Nat→Prop
 | .node k s _ ks,c=>∃cs,kn[c]? =some (ck k s cs)∧(∀d∈cs,d<c)∧fY kn ks cs
def fY(kn:List ByteArray):List Tree→List Nat→Prop
 |[],cs=>cs=[]
 |t::ts,cs=>∃d ds,cs=d::ds∧dU kn t d∧fY kn ts ds
end
def ln(kn:List ByteArray):Prop:=∀i (hi:i<kn.length),∃k s cs,kn[i]=ck k s cs∧∀d∈cs,d<i
end
mutual
def iZ:Tree→List Int
 | .node k _ _ ks=>k::ja ks
def ja:List Tree→List Int
 |[]=>[]
 |t::ts=>iZ t++ja ts
end
mutual
theorem lp:∀t:Tree,(iZ t).length=t.size
 | .node k s l A=>by rw[iZ,Tree.size,bF,zM A]
theorem zM:∀ts:List Tree,(ja ts).length=ax ts
 |[]=>by rw[ja,ax];rfl
 |t::ts=>by rw[ja,ax,cI,lp t,zM ts]
end
section
variable {ck:Int→ByteArray→List Nat→ByteArray}
mutual
theorem dU.mono{kn A:List ByteArray}(h:kn<+:A):∀(t:Tree) (c:Nat),dU ck kn t c→dU ck A t c
 | .node k s l M,c,q=>by
  rw[dU]at q⊢;obtain⟨cs,h1,h2,E⟩:=q;refine⟨cs,?_,h2,fY.mono h M cs E⟩;obtain⟨r,rfl⟩:=h
  have G:c<kn.length:=by
   rcases b7 c kn.length with q|q;·exact q
   ·rw[gM q]at h1;cases h1
  rw[jD G];exact h1
theorem fY.mono{kn A:List ByteArray}(h:kn<+:A):∀(ts:List Tree) (cs:List Nat),fY ck kn ts cs→fY ck A ts cs
 |[],cs,q=>by rw[fY]at q⊢;exact q
 |t::ts,cs,q=>by rw[fY]at q⊢;obtain⟨d,ds,h1,h2,E⟩:=q;exact⟨d,ds,h1,dU.mono h t d h2,fY.mono h ts ds E⟩
end
theorem dU.kinds(aL:nY ck){kn:List ByteArray}(n:Nat):∀c,c<n→∀t u,dU ck kn t c→dU ck kn u c→iZ t=iZ u:=by
 induction n with
 |zero=>intro c ax;omega
 |succ n aG=>
  intro c ax t u M O;cases t with
  |node k s l A=>
   cases u with
   |node aP s' l' E=>
    rw[dU]at M O;obtain⟨cs,h1,h2,ak⟩:=M;obtain⟨aN,g1,aO,ac⟩:=O;rw[h1]at g1;obtain⟨rfl,rfl⟩:=aL (aU g1);rw[iZ,iZ];congr 1
    have aM:∀(cs:List Nat) (A E:List Tree),(∀d∈cs,d<c)→fY ck kn A cs→fY ck kn E cs→ja A=ja E:=by
     intro cs;induction cs with
     |nil=>
      intro A E _ h g;cases A with
      |nil=>cases E with
       |nil=>rfl
       |cons a l=>rw[fY]at g;obtain⟨_,_,e,_⟩:=g;cases e
      |cons a l=>rw[fY]at h;obtain⟨_,_,e,_⟩:=h;cases e
     |cons d cs aJ=>
      intro A E G h g;cases A with
      |nil=>rw[fY]at h;cases h
      |cons a l=>cases E with
       |nil=>rw[fY]at g;cases g
       |cons b m=>rw[fY]at h g;obtain⟨_,_,Y,am,ao⟩:=h;obtain⟨_,_,ab,ad,aj⟩:=g;cases Y;cases ab;rw[ja,ja,aG d (by have:=G d eu;omega) a b am ad,aJ l m (fun e aB=>G e (cW _ aB)) ao aj]
    exact aM cs A E h2 ak ac
theorem dU.lt{kn:List ByteArray}{t:Tree}{c:Nat}(h:dU ck kn t c):c<kn.length:=by
 cases t with
 |node k s l A=>
  rw[dU]at h;obtain⟨cs,h1,_⟩:=h;rcases b7 c kn.length with q|q;·exact q
  ·rw[gM q]at h1;cases h1
theorem GV(Y:nY ck){kn:List ByteArray}(E:ln ck kn)(k:Int)(s:ByteArray)(cs:List Nat)(M:∀d∈cs,d<kn.length):kn<+:(gw kn (ck k s cs)).2∧ln ck (gw kn (ck k s cs)).2∧(gw kn (ck k s cs)).2[(gw kn (ck k s cs)).1]? =some (ck k s cs)∧∀d∈cs,d<(gw kn (ck k s cs)).1:=by
 unfold gw;split;·rename_i i h;rw[List.findIdx?_eq_some_iff_getElem]at h;obtain⟨A,h1,-⟩:=h;simp only[decide_eq_true_eq]at h1;refine⟨Ce,E,by simp only;rw[aE A,h1],?_⟩;obtain⟨ac,s',ab,G,O⟩:=E i A;rw[h1]at G;obtain⟨-,rfl⟩:=Y G;exact O
 ·refine⟨⟨_,rfl⟩,fun i A=> ?_,by simp,M⟩;simp only[cI,bF,List.length_nil]at A;by_cases e:i<kn.length;·rw[List.getElem_append_left e];exact E i e
  ·obtain rfl:i=kn.length:=by omega
   exact⟨k,s,cs,by simp,M⟩
mutual
theorem GX(G:nY ck)(m:Nat):∀(t:Tree) (n:Nat) (kn:List ByteArray),ln ck kn→kn<+:(cS ck m t n kn).2.2∧ln ck (cS ck m t n kn).2.2∧dU ck (cS ck m t n kn).2.2 t (cS ck m t n kn).2.1∧∀x∈(cS ck m t n kn).1,∃u,dU ck (cS ck m t n kn).2.2 u x.a6∧x.size=u.size∧n≤x.number∧((iZ t).drop (x.number-n)).take u.size=iZ u
 | .node k s l A,n,kn,ab=>by
  obtain⟨h1,h2,M,O,Y⟩:=uX G m A (n+1) kn ab;have q:=GV G h2 k s _ O;rw[cS];simp only;have e:dU ck (gw (bz ck m A (n+1) kn).2.2 (ck k s (bz ck m A (n+1) kn).2.1)).2 (.node k s l A) (gw (bz ck m A (n+1) kn).2.2 (ck k s (bz ck m A (n+1) kn).2.1)).1:=by rw[dU];exact⟨_,q.2.2.1,q.2.2.2,fY.mono q.1 _ _ M⟩
  refine⟨h1.trans q.1,q.2.1,e,fun x E=> ?_⟩;rcases b8.1 E with rfl|E;·refine⟨_,e,by simp only[Tree.size],an _,?_⟩;simp only[kH,List.drop_zero];rw[List.take_of_length_le (by rw[lp];exact an _)]
  ·obtain⟨u,ac,ad,ak,aj⟩:=Y x E;refine⟨u,ac.mono q.1,ad,by omega,?_⟩;rw[iZ,show x.number-n=(x.number-(n+1))+1 by omega,List.drop_succ_cons];exact aj
theorem uX(ac:nY ck)(m:Nat):∀(ts:List Tree) (n:Nat) (kn:List ByteArray),ln ck kn→kn<+:(bz ck m ts n kn).2.2∧ln ck (bz ck m ts n kn).2.2∧fY ck (bz ck m ts n kn).2.2 ts (bz ck m ts n kn).2.1∧(∀d∈(bz ck m ts n kn).2.1,d<(bz ck m ts n kn).2.2.length)∧∀x∈(bz ck m ts n kn).1,∃u,dU ck (bz ck m ts n kn).2.2 u x.a6∧x.size=u.size∧n≤x.number∧((ja ts).drop (x.number-n)).take u.size=iZ u
 |[],n,kn,M=>by rw[bz];exact⟨Ce,M,by rw[fY],fun _ h=>by(cases h),fun _ h=>by cases h⟩
 |t::ts,n,kn,M=>by
  obtain⟨h1,h2,ab,ax⟩:=GX ac m t n kn M;obtain⟨g1,aj,ak,am,ao⟩:=uX ac m ts (n+t.size) _ h2;rw[bz];simp only;refine⟨h1.trans g1,aj,?_,fun d G=> ?_,fun x A=> ?_⟩;·rw[fY];exact⟨_,_,rfl,dU.mono g1 _ _ ab,ak⟩
  ·rcases b8.1 G with rfl|G;·exact dU.lt (dU.mono g1 _ _ ab)
   ·exact am d G
  ·rw[ja];rcases ev.1 A with A|A;·obtain⟨u,O,Y,ad,E⟩:=ax x A;refine⟨u,dU.mono g1 _ _ O,Y,ad,?_⟩;have aB:=congrArg List.length E;rw[mb,pq,lp,lp]at aB;have aG:=u.size_eq;rw[List.drop_append_of_le_length (by rw[lp];omega),List.take_append_of_le_length (by rw[pq,lp];omega)];exact E
   ·obtain⟨u,O,Y,ad,E⟩:=ao x A;refine⟨u,O,Y,by omega,?_⟩;rw[List.drop_append,List.drop_of_length_le (by rw[lp];omega),ji,lp,show x.number-n-t.size=x.number-(n+t.size) by omega];exact E
end
theorem zN(am:nY ck)(ds:List cF)(kn:List ByteArray)(aj:ln ck kn):kn<+:(dk ck ds kn).2∧ln ck (dk ck ds kn).2∧∀x∈(dk ck ds kn).1,∃u,dU ck (dk ck ds kn).2 u x.a6∧x.size=u.size∧∃d∈ds,x.J=d.J∧d.number+1≤x.number∧((ja d.t.kids).drop (x.number-(d.number+1))).take u.size=iZ u:=by
 unfold dk
 have ao:∀(E:List cF) (s:List bq×List ByteArray),(∀d∈E,d∈ds)→kn<+:s.2→ln ck s.2→(∀x∈s.1,∃u,dU ck s.2 u x.a6∧x.size=u.size∧∃d∈ds,x.J=d.J∧d.number+1≤x.number∧((ja d.t.kids).drop (x.number-(d.number+1))).take u.size=iZ u)→
   kn<+:(E.foldl (gG ck) s).2∧ln ck (E.foldl (gG ck) s).2∧∀x∈(E.foldl (gG ck) s).1,∃u,dU ck (E.foldl (gG ck) s).2 u x.a6∧x.size=u.size∧∃d∈ds,x.J=d.J∧d.number+1≤x.number∧((ja d.t.kids).drop (x.number-(d.number+1))).take u.size=iZ u:=by
  intro E;induction E with
  |nil=>intro s _ h1 h2 G;exact⟨h1,h2,G⟩
  |cons d E ak=>
   intro s Y h1 h2 G;rw[dK];obtain⟨g1,ab,-,-,ac⟩:=uX am d.J d.t.kids (d.number+1) s.2 h2;refine ak _ (fun e ad=>Y e (cW _ ad)) (h1.trans g1) ab fun x A=> ?_;unfold gG at A⊢;simp only at A⊢;rcases ev.1 A with A|A;·obtain⟨u,M,O⟩:=G x A;exact⟨u,dU.mono g1 _ _ M,O⟩
   ·obtain⟨u,M,O,ax,aB⟩:=ac x A
    exact⟨u,M,O,d,Y d eu,(by
     have:∀(ts:List Tree) (n:Nat) (kn:List ByteArray),∀x∈(bz ck d.J ts n kn).1,x.J=d.J:=fun ts n kn x A=>(uW ts n kn x A)
     exact this _ _ _ x A),ax,aB⟩
 exact ao ds ([],kn) (fun _ h=>h) Ce aj fun x A=>by cases A
theorem GY(A:nY ck)(od nd:List cF):∀x∈(dk ck od []).1,∀y∈(dk ck nd (dk ck od []).2).1,x.a6=y.a6→x.size=y.size:=by intro x O y hy e;obtain⟨aj,E,G⟩:=zN A od [] (fun i M=>by simp at M);obtain⟨b1,b2,b3⟩:=zN A nd _ E;obtain⟨u,Y,ab,-⟩:=G x O;obtain⟨v,ac,ad,-⟩:=b3 y hy;have:=dU.kinds A (x.a6+1) x.a6 (by omega) u v (dU.mono b1 _ _ Y) (by rw[e];exact ac);rw[ab,ad,←lp,←lp,this]
end
theorem GZ(T:fq):nY (aX T):=fun k E s s' cs A h=>by unfold aX at h;have:=congrArg (fun b:ByteArray=>b.data.toList) h;exact GR T (by simpa using this)
structure bY where
 v:Value
 n:Nat
 xs:List Value
def mY:bY:=⟨.slice none 0 0,0,[]⟩
structure jV(w:World)(h:Hp)(B:Nat)(T:Nat→TypeId)(W:Nat→Nat)(F:Nat→bY):Prop where
 own:∀k,Ow w h B (T k) (W k) (F k).v (F k).n (F k).xs
 apart:∀k k',k≠k'→cj (F k).v (F k').v
def ba(F:Nat→bY)(k:Nat)(x:bY):Nat→bY:=fun j=>if j=k then x else F j
theorem mZ(F:Nat→bY)(k:Nat)(x:bY):ba F k x k=x:=if_pos rfl
theorem cQ(F:Nat→bY){k j:Nat}(x:bY)(h:j≠k):ba F k x j=F j:=if_neg h
section
variable {w w1:World} {h:Hp} {B:Nat} {T:Nat→TypeId} {W:Nat→Nat} {F:Nat→bY} {S:Nat→Prop}
theorem jV.start(w:World)(h:Hp)(B:Nat)(T:Nat→TypeId)(W:Nat→Nat):jV w h B T W fun _=>mY:=
 ⟨fun k=>Ow.nil _ _ _ _ _,fun k E _ g A=>by simp[mY,bW]at A⟩
theorem jV.tu(r:jV w h B T W F)(t:Tu S w w1)(A:∀k b,(F k).v.ownBlock=some b→¬S b):jV w1 h B T W F:=⟨fun k=>(r.own k).mO t (A k),r.apart⟩
theorem jV.step(r:jV w h B T W F)(k:Nat)(x:bY)(t:Tu S w w1)(O:∀j b,j≠k→(F j).v.ownBlock=some b→¬S b)(o:Ow w1 h B (T k) (W k) x.v x.n x.xs)(bk:x.v.ownBlock=(F k).v.ownBlock∨∃b,x.v.ownBlock=some b∧w.heap.size≤b):jV w1 h B T W (ba F k x):=by
 refine⟨fun j=> ?_,fun j E e=> ?_⟩
 ·by_cases hj:j=k;·subst hj;rw[mZ];exact o
  ·rw[cQ _ _ hj];exact(r.own j).mO t fun b G=>O j b hj G
 ·by_cases hj:j=k
  ·subst hj;rw[mZ,cQ _ _ fun h=>e h.symm];intro g A h2;rcases bk with q|⟨b,q,G⟩;·rw[q]at A;exact r.apart j E e g A h2
   ·have:=((r.own E).lt g h2).2;rw[q]at A;have:=aU A;omega
  ·by_cases M:E=k
   ·subst M;rw[cQ _ _ hj,mZ];intro g A h2;rcases bk with q|⟨b,q,G⟩;·rw[q]at h2;exact r.apart j E e g A h2
    ·have:=((r.own j).lt g A).2;rw[q]at h2;have:=aU h2;omega
   ·rw[cQ _ _ hj,cQ _ _ M];exact r.apart j E e
theorem Ow.rY{K:Type}{enc:K→Value}{e:TypeId}{k n r:Nat}{v:Value}{xs:List Value}{l:List (K×Value)}(o:Ow w h B e k v n xs)(m:aS enc w r l):v.ownBlock≠some r:=by
 intro A;rcases o.row with⟨-,⟨rfl,-⟩|⟨E,M,O,rfl,-,G,-⟩⟩;·simp[bW]at A
 ·have e:E=r:=by simpa[bW]using A
  subst e;unfold aS cG at m;rw[G]at m;cases m
end
def sT:Nat→TypeId
 |0=>97|1=>101|2=>3|3=>3|4=>63|_=>4
def sW:Nat→Nat
 |1=>6|_=>1
theorem lZ.of{h:Hp}{v:Value}{l:List cF}{cs:List Value}(s:Sl h v l.length 6 cs)(e:aJ (kq h) l cs):lZ h v l:=⟨cs,s,e⟩
theorem Hc(ms:List Nat)(n:Nat)(h:ms.length=n):ms.map (fun m=>Value.map (some m))=(aw n).map fun i=>Value.map (some (ms.getD i 0)):=by
 apply List.ext_getElem;·simp[h]
 ·intro i h1 h2;simp only[dL]at h1;simp[bb,aE h1]
structure ec(h:Hp)(w:World)(sb:Nat)(tv:Value)(F:Nat→bY):Prop where
 I:ao h w
 rows:jV w h (sb+1) sT sW F
 box:Has w sb #[tv,(F 0).v,(F 1).v,(F 2).v,(F 3).v,(F 4).v]
 no:h sb=none
theorem Has.rY{K:Type}{enc:K→Value}{w:World}{b r:Nat}{c:Array Value}{l:List (K×Value)}(x:Has w b c)(A:0<c.size)(m:aS enc w r l):b≠r:=by intro e;subst e;have h:=x.qj A;unfold aS cG at m;unfold bi at h;rw[m]at h;cases h
section
variable {h:Hp} {w w1 w2:World} {sb:Nat} {tv:Value} {F:Nat→bY} {S:Nat→Prop}
theorem ec.tu(g:ec h w sb tv F)(t:Tu S w w1)(A:∀b,S b→b≠sb∧h b=none∧∀k,(F k).v.ownBlock≠some b):ec h w1 sb tv F:=
 ⟨t.I g.I fun b E=>(A b E).2.1,g.rows.tu t fun k b E e=>(A b e).2.2 k E,g.box.tu t fun e=>(A sb e).1 rfl,g.no⟩
theorem ec.below(g:ec h w sb tv F)(b:Below w.heap.size w w1):ec h w1 sb tv F:=g.tu ((Tu.refl (fun _=>False) w).below b) fun _ e=>e.elim
theorem ec.hJ(g:ec h w sb tv F)(k:Nat){b:Nat}(A:(F k).v.ownBlock=some b):sb<b∧b<w.heap.size:=by have:=(g.rows.own k).lt b A;omega
theorem ec.behind(g:ec h w sb tv F)(k:Nat)(t:Tu (fun b=>(F k).v.ownBlock=some b) w w1):Has w1 sb #[tv,(F 0).v,(F 1).v,(F 2).v,(F 3).v,(F 4).v]:=
 g.box.tu t fun e=>by have:=g.hJ k e;omega
theorem ec.put(g:ec h w sb tv F)(k:Nat)(ac:k<5)(x:bY)(t:Tu (fun b=>(F k).v.ownBlock=some b) w w1)(o:Ow w1 h (sb+1) (sT k) (sW k) x.v x.n x.xs)(bk:x.v.ownBlock=(F k).v.ownBlock∨∃b,x.v.ownBlock=some b∧w.heap.size≤b):ec h (w1.setCell ⟨sb,k+1,none⟩ x.v) sb tv (ba F k x)∧Tu (fun b=>b=sb∨(F k).v.ownBlock=some b) w (w1.setCell ⟨sb,k+1,none⟩ x.v):=by
 have O:=g.behind k t;have G:Tu (fun b=>b=sb∨(F k).v.ownBlock=some b) w (w1.setCell ⟨sb,k+1,none⟩ x.v):=(t.mono fun b e=> .inr e).set (.inl (.inl rfl)) _;have r:=g.rows.step k x t (fun j b hj A E=>g.rows.apart j k hj b A E) o bk;have ab:=(Tu.refl (fun b=>b=sb) w1).set (p:=⟨sb,k+1,none⟩) (.inl rfl) x.v;have Y:∀j b,(ba F k x j).v.ownBlock=some b→sb<b:=fun j b A=>by have:=(r.own j).lt b A;omega
 refine⟨⟨G.I g.I fun b A=> ?_,r.tu ab fun j b A e=>by have:=Y j b A;omega,?_,g.no⟩,G⟩
 ·rcases A with rfl|A;·exact g.no
  ·exact(g.rows.own k).free b A
 ·have M:=O.fg (k+1) (by simp;omega) x.v
  have: #[tv,(F 0).v,(F 1).v,(F 2).v,(F 3).v,(F 4).v].setIfInBounds (k+1) x.v= #[tv,(ba F k x 0).v,(ba F k x 1).v,(ba F k x 2).v,(ba F k x 3).v,(ba F k x 4).v]:=by
   have E:k=0∨k=1∨k=2∨k=3∨k=4:=by omega
   rcases E with rfl|rfl|rfl|rfl|rfl<;>rfl
  rw[←this];exact M
theorem ec.map{K:Type}{enc:K→Value}{r:Nat}{l:List (K×Value)}(g:ec h w sb tv F)(k:Nat)(t:Tu (fun b=>b=sb∨(F k).v.ownBlock=some b) w w1)(m:aS enc w r l):aS enc w1 r l:=
 m.tu t fun e=>by
  rcases e with e|e;·exact g.box.rY (by simp) m e.symm
  ·exact(g.rows.own k).rY m e
theorem ec.made(g:ec h w sb tv F)(k:Nat)(E:5≤k)(x:bY)(t:Tu (fun _=>False) w w1)(o:Ow w1 h (sb+1) (sT k) (sW k) x.v x.n x.xs)(bk:∃b,x.v.ownBlock=some b∧w.heap.size≤b):ec h w1 sb tv (ba F k x):=by have e:∀i,i<5→ba F k x i=F i:=fun i A=>cQ _ _ (by omega);refine⟨t.I g.I fun _ e=>e.elim,g.rows.step k x t (fun _ _ _ _ e=>e) o (.inr bk),?_,g.no⟩;rw[e 0 (by omega),e 1 (by omega),e 2 (by omega),e 3 (by omega),e 4 (by omega)];exact g.box.tu t id
end
structure ha(h:Hp)(w:World)(sb:Nat)(tv:Value)(F:Nat→bY)(ms:List Nat)(ts:List Tree)(ds:List cF)(j:Nat):Prop where
 mem:ec h w sb tv F
 n0:(F 0).n=j∧(F 0).xs=ms.map fun m=> .map (some m)
 nm:ms.length=j
 n1:(F 1).n=ds.length∧aJ (kq h) ds (F 1).xs
 n2:(F 2).n=j∧(F 2).xs=aV (aA j (-1))
 n3:(F 3).n=ds.length∧(F 3).xs=aV (aA ds.length (-1))
 n4:(F 4).n=j∧(F 4).xs=(aw j).map fun i=>(F (5+i)).v
 n5:∀i,i<j→(F (5+i)).n=(ts.getD i default).size∧(F (5+i)).xs=dZ (aA (ts.getD i default).size false)
 n6:∀i,j≤i→F (5+i)=mY
 maps:∀i,i<j→aS dQ w (ms.getD i 0) (bX (ts.getD i default).kids)
section
variable {h:Hp} {w w1:World} {sb:Nat} {tv:Value} {F:Nat→bY} {ms:List Nat} {ts:List Tree} {ds:List cF} {j:Nat} {S:Nat→Prop}
theorem ha.tu(g:ha h w sb tv F ms ts ds j)(t:Tu S w w1)(A:∀b,S b→b≠sb∧h b=none∧(∀k,(F k).v.ownBlock≠some b)∧∀i,i<j→b≠ms.getD i 0):ha h w1 sb tv F ms ts ds j:=
 ⟨g.mem.tu t fun b E=>⟨(A b E).1,(A b E).2.1,(A b E).2.2.1⟩,g.n0,g.nm,g.n1,g.n2,g.n3,g.n4,g.n5,g.n6,fun i G=>(g.maps i G).tu t fun e=>(A _ e).2.2.2 i G rfl⟩
theorem ha.below(g:ha h w sb tv F ms ts ds j)(b:Below w.heap.size w w1):ha h w1 sb tv F ms ts ds j:=g.tu ((Tu.refl (fun _=>False) w).below b) fun _ e=>e.elim
theorem ha.def{A E:bY}{d:cF}{cs:List Value}(g:ha h w sb tv F ms ts ds j)(x:ec h w1 sb tv (ba (ba F 1 A) 3 E))(ac:∀i,i<j→aS dQ w1 (ms.getD i 0) (bX (ts.getD i default).kids))(h1:A.n=ds.length+1)(h2:A.xs=(F 1).xs++cs)(O:kq h d cs)(Y:E.n=ds.length+1)(ab:E.xs=(F 3).xs++[.int ae (-1)]):ha h w1 sb tv (ba (ba F 1 A) 3 E) ms ts (ds++[d]) j:=by
 have G:∀i,ba (ba F 1 A) 3 E (5+i)=F (5+i):=fun i=>by rw[cQ _ _ (by omega),cQ _ _ (by omega)]
 refine⟨x,g.n0,g.nm,⟨by rw[cI];exact h1,?_⟩,g.n2,⟨by rw[cI];exact Y,?_⟩,⟨g.n4.1,?_⟩,fun i M=>by rw[G];exact g.n5 i M,fun i M=>by rw[G];exact g.n6 i M,ac⟩;·show aJ (kq h) (ds++[d]) A.xs;rw[h2];exact aJ.append g.n1.2 (aJ.one O)
 ·show E.xs=_;rw[ab,g.n3.2,cI,aV,aV];show _=List.map _ (aA (ds.length+1) (-1));rw[KH,gO];rfl
 ·simp only[G];exact g.n4.2
theorem ha.mod{r0 A rb E:bY}{t:Tree}{m:Nat}(g:ha h w sb tv F ms ts ds j)(x:ec h w1 sb tv (ba (ba (ba (ba F 0 r0) 2 A) (5+j) rb) 4 E))(ac:ts.getD j default=t)(aB:∀i,i<j→aS dQ w1 (ms.getD i 0) (bX (ts.getD i default).kids))(aG:aS dQ w1 m (bX t.kids))(Y:r0.n=j+1∧r0.xs=(F 0).xs++[.map (some m)])(h2:A.n=j+1∧A.xs=(F 2).xs++[.int ae (-1)])(ax:rb.n=t.size∧rb.xs=dZ (aA t.size false))(ab:E.n=j+1∧E.xs=(F 4).xs++[rb.v]):ha h w1 sb tv (ba (ba (ba (ba F 0 r0) 2 A) (5+j) rb) 4 E) (ms++[m]) ts ds (j+1):=by
 have O:ba (ba (ba (ba F 0 r0) 2 A) (5+j) rb) 4 E (5+j)=rb:=by rw[cQ _ _ (by omega),mZ]
 have M:∀i,i≠j→ba (ba (ba (ba F 0 r0) 2 A) (5+j) rb) 4 E (5+i)=F (5+i):=fun i G=>by rw[cQ _ _ (by omega),cQ _ _ (by omega),cQ _ _ (by omega),cQ _ _ (by omega)]
 have ad:ba (ba (ba (ba F 0 r0) 2 A) (5+j) rb) 4 E 0=r0:=by rw[cQ _ _ (by omega),cQ _ _ (by omega),cQ _ _ (by omega),mZ]
 have aj:ba (ba (ba (ba F 0 r0) 2 A) (5+j) rb) 4 E 1=F 1:=by rw[cQ _ _ (by omega),cQ _ _ (by omega),cQ _ _ (by omega),cQ _ _ (by omega)]
 have ak:ba (ba (ba (ba F 0 r0) 2 A) (5+j) rb) 4 E 2=A:=by rw[cQ _ _ (by omega),cQ _ _ (by omega),mZ]
 have am:ba (ba (ba (ba F 0 r0) 2 A) (5+j) rb) 4 E 3=F 3:=by rw[cQ _ _ (by omega),cQ _ _ (by omega),cQ _ _ (by omega),cQ _ _ (by omega)]
 have ao:ba (ba (ba (ba F 0 r0) 2 A) (5+j) rb) 4 E 4=E:=mZ _ _ _;have aJ:=g.nm;refine⟨x,?_,by rw[cI,g.nm];rfl,by rw[aj];exact g.n1,?_,by rw[am];exact g.n3,?_,fun i G=> ?_,fun i G=> ?_,fun i G=> ?_⟩;·rw[ad];exact⟨Y.1,by rw[Y.2,g.n0.2,gO];rfl⟩
 ·rw[ak];refine⟨h2.1,?_⟩;rw[h2.2,g.n2.2,aV,aV,KH,gO];rfl
 ·rw[ao];refine⟨ab.1,?_⟩;rw[ab.2,g.n4.2,List.range_succ,gO,cR,KS,O];congr 1;refine List.map_congr_left fun i G=> ?_;rw[M i (by have:=List.mem_range.1 G;omega)]
 ·by_cases e:i=j;·subst e;rw[O,ac];exact ax
  ·rw[M i e];exact g.n5 i (by omega)
 ·rw[M i (by omega)];exact g.n6 i (by omega)
 ·by_cases e:i=j;·subst e;rw[ac,bb,List.getElem?_append_right (by omega),aJ,kH];exact aG
  ·rw[bb,jD (by omega),←bb];exact aB i (by omega)
theorem ha.done(g:ha h w sb tv F ms ts (aj 0 ts) ts.length)(aQ:hQ h tv ts)(h1:ts.length≤140737488355328)(h2:(aj 0 ts).length≤140737488355328):∃h',ao h' w∧h.le h'∧(∀b,b<sb→h' b=h b)∧cC h' sb ts ms (F 2).v (F 3).v (F 4).v∧hV h' (F 4).v ((aw ts.length).map fun i=>(F (5+i)).v)∧∀k,k=2∨k=3∨5≤k→Ow w h' sb (sT k) (sW k) (F k).v (F k).n (F k).xs:=by
 obtain⟨aL,aS,aX,ak,aZ⟩:=(g.mem.rows.own 0).giveUp g.mem.I (by rw[g.n0.1];exact h1);have aG:∀k,k≠0→Ow w aL (sb+1) (sT k) (sW k) (F k).v (F k).n (F k).xs:=fun k G=>(g.mem.rows.own k).U (fun _ _=>rfl) fun b E=>ak b fun q A e=>by subst e;exact g.mem.rows.apart k 0 G b E A
 obtain⟨aM,aT,l2,am,a1⟩:=(aG 1 (by decide)).giveUp aS (by rw[g.n1.1];exact h2);have aJ:∀k,k≠0→k≠1→Ow w aM (sb+1) (sT k) (sW k) (F k).v (F k).n (F k).xs:=fun k G ab=>(aG k G).U (fun _ _=>rfl) fun b E=>am b fun q A e=>by subst e;exact g.mem.rows.apart k 1 ab b E A
 obtain⟨M,aV,ac,ax,a2⟩:=(aJ 4 (by decide) (by decide)).giveUp aT (by rw[g.n4.1];exact h1);have aY:∀k,k≠0→k≠1→k≠4→Ow w M (sb+1) (sT k) (sW k) (F k).v (F k).n (F k).xs:=fun k G ab aO=>(aJ k G ab).U (fun _ _=>rfl) fun b E=>ax b fun q A e=>by subst e;exact g.mem.rows.apart k 4 aO b E A
 have aB:∀b,b≤sb→M b=h b:=fun b E=>by rw[ax b fun q A e=>by have:=g.mem.hJ 4 A;omega,am b fun q A e=>by have:=g.mem.hJ 1 A;omega,ak b fun q A e=>by have:=g.mem.hJ 0 A;omega]
 have aP:M sb=none:=by rw[aB sb (an _)];exact g.mem.no
 have aN:=g.mem.box.qj (by simp);have O:=Hp.eG #[tv,(F 0).v,(F 1).v,(F 2).v,(F 3).v,(F 4).v] aP;have ad:h.le (M.add sb #[tv,(F 0).v,(F 1).v,(F 2).v,(F 3).v,(F 4).v]):=Hp.le_trans (Hp.le_trans (Hp.le_trans aX l2) ac) O;refine⟨M.add sb #[tv,(F 0).v,(F 1).v,(F 2).v,(F 3).v,(F 4).v],aV.add aN,ad,fun b E=> ?_,⟨tv,(F 0).v,(F 1).v,?_,aQ.mono ad,?_,?_⟩,?_,fun k G=> ?_⟩;·unfold Hp.add;rw[if_neg (by omega)];exact aB b (by omega)
 ·unfold Hp.add;rw[if_pos rfl]
 ·refine lZ.of (cs:=(F 1).xs) ?_ (g.n1.2.mono fun _ _ e=>e.mono ad);rw[←g.n1.1];exact(a1.mono ac).mono O
 ·unfold hV;rw[←Hc ms ts.length g.nm,←g.n0.2];have e:(F 0).xs.length=(F 0).n:=by rw[g.n0.1,g.n0.2,dL,g.nm]
  rw[e];exact((aZ.mono l2).mono ac).mono O
 ·unfold hV;rw[←g.n4.2];have e:(F 4).xs.length=(F 4).n:=by rw[g.n4.1,g.n4.2,dL,List.length_range]
  rw[e];exact a2.mono O
 ·have Y:k≠0∧k≠1∧k≠4:=by omega
  refine((aY k Y.1 Y.2.1 Y.2.2).U (fun _ _=>rfl) fun b E=> ?_).base (by omega);unfold Hp.add;rw[if_neg (by have:=g.mem.hJ k E;omega)]
end
theorem rZ(m:Nat):∀(A:List Tree) (n:Nat),(dt m n A).length=A.length
 |[],_=>by rw[dt];rfl
 |k::A,n=>by rw[dt,bF,bF,rZ m A]
theorem zU(m:Nat)(d:Tree):∀(A:List Tree) (n:Nat),dt m n (A++[d])=dt m n A++[⟨m,n+ax A,d⟩]
 |[],n=>by rw[ji,dt,dt,dt,ax];rfl
 |k::A,n=>by rw[hv,dt,dt,zU m d A,gR,bP];rfl
theorem u1:∀(a b:List Tree) (m:Nat),aj m (a++b)=aj m a++aj (m+a.length) b
 |[],b,m=>by rw[aj];rfl
 |t::a,b,m=>by rw[hv,aj,aj,u1 a b,fI,bF,bP,Nat.add_comm 1]
theorem Hd(ts:List Tree)(j:Nat)(hj:j<ts.length):aj 0 (ts.take (j+1))=aj 0 (ts.take j)++dt j 1 ts[j].kids:=by rw[List.take_succ_eq_append_getElem hj,u1,aj,aj,List.append_nil,mb,Nat.min_eq_left (by omega),Nat.zero_add]
theorem He(ts:List Tree)(j:Nat):(aj 0 (ts.take j)).length≤(aj 0 ts).length:=by have h:=u1 (ts.take j) (ts.drop j) 0;rw[List.take_append_drop]at h;rw[h,cI];omega
theorem r1(k:Nat)(h:5≤k):sT k=4∧sW k=1:=by
 obtain⟨j,rfl⟩:∃j,k=j+5:=⟨k-5,by omega⟩
 exact⟨rfl,rfl⟩
def zV(h:Hp)(w:World)(ts:List Tree)(e:Ending)(w':World):Prop:=∃(sb:Nat) (h':Hp) (ms:List Nat) (R:Nat→Value) (mv av kv:Value),e= .returned (.pointer (some ⟨sb,0,none⟩))∧w.heap.size≤sb∧St w.heap.size h w h' w'∧cC h' sb ts ms mv av kv∧iz w' ms ts∧
 hV h' kv ((aw ts.length).map R)∧Ow w' h' w.heap.size 3 1 mv ts.length (aV (aA ts.length (-1)))∧Ow w' h' w.heap.size 3 1 av (aj 0 ts).length (aV (aA (aj 0 ts).length (-1)))∧
 (∀i,Ow w' h' w.heap.size 4 1 (R i) ((ts.map fun t=>aA t.size false).getD i []).length (dZ ((ts.map fun t=>aA t.size false).getD i [])))∧
 cj mv av∧cj av mv∧(∀i,cj mv (R i)∧cj (R i) mv∧cj av (R i)∧cj (R i) av)∧∀i j,i≠j→cj (R i) (R j)
theorem Hf{h:Hp}{w wr:World}{tv:Value}{F:Nat→bY}{ms:List Nat}{ts:List Tree}(g:ha h wr w.heap.size tv F ms ts (aj 0 ts) ts.length)(bl:Below w.heap.size w wr)(G:hQ h tv ts)(h1:ts.length≤140737488355328)(h2:(aj 0 ts).length≤140737488355328):zV h w ts (.returned (.pointer (some ⟨w.heap.size,0,none⟩))) wr:=by
 obtain⟨h',M,O,Y,ab,ac,E⟩:=g.done G h1 h2;have a:=g.mem.rows.apart;refine⟨w.heap.size,h',ms,fun i=>(F (5+i)).v,(F 2).v,(F 3).v,(F 4).v,rfl,an _,⟨bl,M,O,Y,an _⟩,ab,g.maps,ac,?_,?_,fun i=> ?_,a 2 3 (by decide),a 3 2 (by decide),fun i=>⟨a 2 _ (by omega),a _ 2 (by omega),a 3 _ (by omega),a _ 3 (by omega)⟩,fun i j e=>a _ _ (by omega)⟩;·have:=E 2 (by omega);rw[g.n2.1,g.n2.2]at this;exact this
 ·have:=E 3 (by omega);rw[g.n3.1,g.n3.2]at this;exact this
 ·have:=E (5+i) (by omega);rw[(r1 (5+i) (by omega)).1,(r1 (5+i) (by omega)).2]at this;by_cases A:i<ts.length
  ·have e:(ts.map fun t=>aA t.size false).getD i []=aA (ts.getD i default).size false:=by rw[getD_at (by simpa using A),getD_at A,List.getElem_map]
   rw[e,List.length_replicate];rw[(g.n5 i A).1,(g.n5 i A).2]at this;exact this
  ·have e:(ts.map fun t=>aA t.size false).getD i []=[]:=by rw[bb,gM (by simpa using A)];rfl
   rw[e];show Ow wr h' w.heap.size 4 1 (F (5+i)).v [].length (dZ []);rw[g.n6 i (by omega)]at this⊢;exact this
theorem Hg{h:Hp}{a b c d:Value}{t:Tree}(s:aP h (.agg #[a,b,c,d]) t):bg h t [a,b,c,d]:=by
 obtain⟨cs,e,i⟩:=s;have:cs=[a,b,c,d]:=by simp only[oG]at e;have:=congrArg Array.toList e;simpa using this.symm
 rw[this]at i;exact i
theorem Hh(n:Nat)(Y:n≤1000000)(W:World):(Instr.makeSlice 63 (.int ae (n:Int)) (.int ae (n:Int))).run Tryz.prog W= .ok (.slice (some ⟨W.heap.size,0,none⟩) n n) (W.alloc (.cells (madeCells #[.bool false] (n*1)) 4)):=by
 obtain⟨i,zv,G,hz,M,E,O⟩:=ry.lJ
 have A:(i.bytes:Int)*(n:Int)≤281474976710656:=by
  rw[E];have:((1:Nat):Int)*(n:Int)≤281474976710656:=by omega
  exact this
 have:=run_make W 63 4 i zv ry.kL G hz ae ae (n:Int) (n:Int) (by omega) (by omega) A (by omega);rw[this,O,M];rfl
end Go.Proofs.YtdplggpbgommnaaGreatDoor
