/- pairing.below: the subtrees below the definitions. -/
import Derived.Test.YtdplggpbgommnaaGreatDoorG16
import Derived.Test.YtdplggpbgommnaaGreatDoorG21
open Go renaming bodyPost_ret->aF
open Go.IntKind renaming i64->ae
open Go.Lib renaming hid->aa
open Go.Obj renaming cells->au
open Go.Proofs.Tryz renaming prog->ai,results120->j1
open Go.RowKit.Below renaming refl->aD
open Go.Value renaming int->af,ownBlock->bW,pointer->az,slice->ag,string->ah
open Go.Value.agg renaming injEq->oG
open Go.Value.slice renaming injEq->bU
open Go.World renaming setCell->ef
open List renaming foldl_cons->dK,getElem_mem->aK,length_append->cI,length_nil->cL,map_cons->cR,mem_append->xm,mem_cons_of_mem->cW,mem_cons_self->eu,mem_cons->b8,sum_cons->GS,take_length->cP,take_succ_eq_append_getElem->K1
open List.cons renaming injEq->ii
open Nat renaming le_refl->kI,sub_self->kH,zero_le->aW
open Option.some renaming injEq->aC,inj->aU
set_option maxRecDepth 100000
set_option maxHeartbeats 4000000
namespace Go.Proofs.YtdplggpbgommnaaGreatDoor
open Go.RowKit
def iX(ds:List cF):Nat:=(ds.map (·.t.size)).sum
section
variable {ck:Int->ByteArray->List Nat->ByteArray}
theorem rH:∀(ds:List cF) (s:List bq×List ByteArray),(ds.foldl (gG ck) s).1.length<=s.1.length+iX ds/\(ds.foldl (gG ck) s).2.length<=s.2.length+iX ds
 |[],s=>by simp[iX]
 |d::ds,s=>by have h:=rH ds (gG ck s d);have q:=pF (ck:=ck) d.module d.t.kids (d.number+1) s.2;have hz:=d.t.size_eq;simp only[dK,iX,cR,GS]at h⊢;unfold gG at h;simp only[cI]at h;unfold gG;simp only;omega
end
theorem F4(ds:List cF)(j:Nat)(hj:j<ds.length):iX (ds.take j)+ds[j].t.size<=iX ds:=by
 unfold iX;have:ds=ds.take j++ds[j]::ds.drop (j+1):=by simp
 have h2:(ds.map (·.t.size)).sum=((ds.take j++ds[j]::ds.drop (j+1)).map (·.t.size)).sum:=by rw[<-this]
 rw[h2];simp only[List.map_append,cR,List.sum_append,GS];omega
theorem cz.boxed{h:Hp}{w w':World}{B r:Nat}{lv bC jl:Value}{wr:World}{L L2:List bq}{kn nD:List ByteArray}(s:cz h w B r lv wr bC L kn)(c:cz h wr B r bC w' jl L2 nD){g:Nat}{G:Array Value}{ty:TypeId}(hx:wr.heap[g]? =some (.cells G ty (0,0)))(O:ty≠121):w'.heap[g]? =some (.cells G ty (0,0)):=by
 refine(c.tu.block _ (Has.heap hx).lt fun e=> ?_).trans hx;rcases e with e|e;·obtain⟨c2,h2⟩:=s.own.type e;rw[hx]at h2;simp only[aC]at h2;injection h2 with _ J;exact O J
 ·have h2:=s.map;unfold aS cG at h2;rw[<-e,hx]at h2;cases h2
theorem yL(T:Lib.PrintTabs)(N:Nat){h:Hp}{w:World}(am:ao h w)(tb:Tb T N w){sb:Nat}{ts:List Tree}{mr:List Nat}{mv av kv:Value}(K:cC h sb ts mr mv av kv)(cb r:Nat)(kn:List ByteArray)(co:cb<w.heap.size)(bd:N<=r)(bg:cb≠r)(hr:h r=none)(bG:Has w cb #[.map (some r)])(aO:aS j8 w r (hB kn))(bq:∀d∈aj 0 ts,d.t.short)(dg:iX (aj 0 ts)+kn.length<=400000)(bm:∀d∈aj 0 ts,d.number+d.t.size<=400000)(cY:(aj 0 ts).length<=1000000):Calls ai 65 #[az (some ⟨cb,0,none⟩),az (some ⟨sb,0,none⟩)] w fun e w'=>∃bC,e= .returned bC/\cz h w w.heap.size r (ag none 0 0) w' bC (dk (aX T) (aj 0 ts) kn).1 (dk (aX T) (aj 0 ts) kn).2:=by
 obtain⟨tv,di,cN,ak,-,hd,-⟩:=K.box;obtain⟨ad,a3,rfl,c9,-⟩:=hd.open;have dm:w.cell? ⟨sb,2,none⟩=some (ag ad (aj 0 ts).length a3):=cu am ak 2;have zs:=cD (am _ _ ak);have bH:=aa ak;have Y:=aa am;have aY:=aa tb;have cd:=aa bG;have bR:=aa K;have bZ:=aa bq;have bT:=aa bm;have cq:=aO.lt;have bV:Hid (cz h w w.heap.size r (ag none 0 0) w (ag none 0 0) [] kn):=⟨Ow.nil _ _ _ _ _,aO,Tu.refl _ _,.inl rfl⟩
 have ab:Hid (∀g,(ag none 0 0).ownBlock=some g->h g=none):=fun g e=>by simp[bW]at e
 have bS:Hid (∀g,(ag none 0 0).ownBlock=some g->N<=g):=fun g e=>by simp[bW]at e
 have ce:Hid (∀{wr bC M q},cz h w w.heap.size r (ag none 0 0) wr bC M q->Has wr cb #[.map (some r)]):=fun z=>cd.out.tu z.tu fun e=>by
  rcases e with e|e;·simp[bW]at e
  ·exact bg e
 clear ak am tb bG K bq bm aO hd;go_in;go_wp2_with fail;go_loopw[5,17] (fun l i wr=>∃(j:Nat) (bC:Value),j<=(aj 0 ts).length/\bC=l/\i=af ae j/\cz h w w.heap.size r (ag none 0 0) wr bC (((aj 0 ts).take j).foldl (gG (aX T)) ([],kn)).1 (((aj 0 ts).take j).foldl (gG (aX T)) ([],kn)).2) (fun _ i _=>(aj 0 ts).length-(intOf i).toNat);case atStart=>exact⟨0,_,aW _,rfl,rfl,bV.out⟩
 case round=>
  obtain⟨j,bC,c6,rfl,rfl,z⟩:=hrel;by_cases hj:j<(aj 0 ts).length
  ·have cA:=F4 _ _ hj;have aQ:=rH (ck:=aX T) ((aj 0 ts).take j) ([],kn);have bL:Hid (((aj 0 ts).take (j+1)).foldl (gG (aX T)) ([],kn)=gG (aX T) (((aj 0 ts).take j).foldl (gG (aX T)) ([],kn)) (aj 0 ts)[j]):=by unfold Hid;rw[K1 hj,List.foldl_append];rfl
   obtain⟨b,off,n,cF,al,aN,aL,ck,hs,cZ,hn,dB,dD,d0,cg,ch,ci,cj,cl,tv⟩:=bR.out.lh (z.I Y.out ab.out hr) j hj;have bB:wr.cell? ⟨sb,2,none⟩=some (ag ad (aj 0 ts).length a3):=cu (z.I Y.out ab.out hr) bH.out 2;rw[bB,aC,bU]at hs;obtain⟨rfl,rfl,rfl⟩:=hs;have a9:(aj 0 ts).getD j default=(aj 0 ts)[j]:=by simp[List.getD_eq_getElem?_getD,List.getElem?_eq_getElem hj]
   rw[a9]at d0 cg ch ci cj cl tv;have a8:=bZ.out _ (aK hj);have cM:=bT.out _ (aK hj);clear a9;generalize(aj 0 ts)[j]=d at*;generalize((aj 0 ts).take j).foldl (gG (aX T)) ([],kn)=A at*;obtain⟨cE,cK,cB,cG,xs,ba,-,-,c8,-,bp,he⟩:=tv.open;simp only[oG,Array.mk.injEq,ii,bU,and_true,true_and]at ba;obtain⟨⟨rfl,rfl⟩,rfl,rfl⟩:=ba;have bY:=aa bp;have bI:=aa he;have hz:=d.t.size_eq;have bJ:=aa (d.t.LA a8).2;have a2:Below wr.heap.size wr (wr.alloc (.cells #[af ae d.module,af ae d.number,af ae d.t.kind,ah d.t.text,ag al d.t.leads.length aN,ag aL d.t.kids.length ck] 101)):=(aD _ _).alloc (kI _) _;have bX:=aa (z.below a2);have cc:=aa (heap_alloc_new wr (.cells #[af ae d.module,af ae d.number,af ae d.t.kind,ah d.t.text,ag al d.t.leads.length aN,ag aL d.t.kids.length ck] 101));obtain⟨aP,rfl⟩:∃aP:World,aP=wr:=⟨_,rfl⟩
   have dr:(0:Int)<=(j:Int):=by omega
   have dt:(j:Int)<((aj 0 ts).length:Int):=by omega
   have w0:ae.wrap ((d.number:Int)+1)=((d.number+1:Nat):Int):=by rw[bA (by omega)];omega
   clear bp he tv bB a2 a8 z;go_wp2_with fail;go_loopw[5,8,28] (fun l q i bE=>∃(z:Nat) (bC:Value),z<=d.t.kids.length/\bC=l/\q=af ae (d.number+1+ax (d.t.kids.take z):Nat)/\i=af ae z/\cz h w w.heap.size r (ag none 0 0) bE bC (A.1++(bz (aX T) d.module (d.t.kids.take z) (d.number+1) A.2).1) (bz (aX T) d.module (d.t.kids.take z) (d.number+1) A.2).2.2/\bE.heap[aP.heap.size]? =some (.cells #[af ae d.module,af ae d.number,af ae d.t.kind,ah d.t.text,ag al d.t.leads.length aN,ag aL d.t.kids.length ck] 101 (0,0))) (fun _ _ i _=>d.t.kids.length-(intOf i).toNat);case atStart=>exact⟨0,_,aW _,rfl,congrArg (af ae) (by simp[ax]),rfl,by simpa[bz]using bX.out,cc.out⟩
   case round=>
    obtain⟨z,bC,dh,rfl,rfl,rfl,st,hx⟩:=hrel;by_cases aB:z<d.t.kids.length
    ·have bv:=st.I Y.out ab.out hr;obtain⟨bk,ok,a1,a5,aZ,a4,rfl,dC,cQ,cU,cV,cX,cv⟩:=j9 bY.out bI.out bv z aB;have dp:=eY d.t.kids z aB;have dn:=jK d.t.kids (z+1);have ct:=s3 bJ.out z aB;have aT:=pF (ck:=aX T) d.module (d.t.kids.take z) (d.number+1) A.2;have aJ:Hid (bz (aX T) d.module (d.t.kids.take (z+1)) (d.number+1) A.2=((bz (aX T) d.module (d.t.kids.take z) (d.number+1) A.2).1++(cS (aX T) d.module d.t.kids[z] (d.number+1+ax (d.t.kids.take z)) (bz (aX T) d.module (d.t.kids.take z) (d.number+1) A.2).2.2).1,(bz (aX T) d.module (d.t.kids.take z) (d.number+1) A.2).2.1++[(cS (aX T) d.module d.t.kids[z] (d.number+1+ax (d.t.kids.take z)) (bz (aX T) d.module (d.t.kids.take z) (d.number+1) A.2).2.2).2.1],(cS (aX T) d.module d.t.kids[z] (d.number+1+ax (d.t.kids.take z)) (bz (aX T) d.module (d.t.kids.take z) (d.number+1) A.2).2.2).2.2)):=by unfold Hid;rw[K1 aB,s6]
     have w2:ae.wrap (((d.number+1+ax (d.t.kids.take z):Nat):Int)+(d.t.kids[z].size:Int))=((d.number+1+ax (d.t.kids.take (z+1)):Nat):Int):=by rw[bA (by omega)];omega
     generalize d.t.kids[z]=G at*;generalize bz (aX T) d.module (d.t.kids.take z) (d.number+1) A.2=C at*;obtain⟨aG,cm⟩:∃q,q=d.number+1+ax (d.t.kids.take z):=⟨_,rfl⟩
     rw[<-cm]at aJ w2;obtain⟨cw,cn⟩:∃q,q=d.number+1+ax (d.t.kids.take (z+1)):=⟨_,rfl⟩
     rw[<-cn]at w2;obtain⟨R,hR⟩:∃R,R=cS (aX T) d.module G aG C.2.2:=⟨_,rfl⟩
     rw[<-hR]at aJ;have b1:Below wr.heap.size wr (wr.alloc (.cells #[af ae G.kind,ah G.text,ag a1 G.leads.length a5,ag aZ G.kids.length a4] 26)):=(aD _ _).alloc (kI _) _;have J:=aa (st.below b1);have aV:=aa ((heap_alloc_old wr (.cells #[af ae G.kind,ah G.text,ag a1 G.leads.length a5,ag aZ G.kids.length a4] 26) (Has.heap hx).lt).trans hx);have bO:=aa (J.out.I Y.out ab.out hr);have b9:=aa (J.out.tb aY.out bS.out bd);have O:=aa (Ct T N G.size G (kI _) ct h _ w.heap.size cb r _ bC (A.1++C.1) C.2.2 d.module aG bO.out b9.out aY.out.1 J.out.tu.size co cq bd bg hr (ce.out J.out) cv J.out.own J.out.map (by rw[cI,aT.1];simp only[cL]at aQ;omega) (by simp only[cL]at aQ;omega) (by omega));rw[<-hR]at O;have a0:=(Has.heap hx).cl 0;simp only[List.getElem?_toArray,List.getElem?_cons_zero]at a0;have dA:=(Has.heap hx).lt;have du:(0:Int)<=(z:Int):=by omega
     have dv:(z:Int)<(d.t.kids.length:Int):=by omega
     rw[show((aG:Nat):Int)=(d.number:Int)+1+(ax (d.t.kids.take z):Int)from by omega]at O;clear hR st bv b1 aT;go_wp2_with fail;refine O.out.mono ?_;rintro e dw ⟨jl,rfl,aM⟩;have cf:=aa (J.out.call aM);have bN:=aa (J.out.boxed aM aV.out (by decide));clear aM O J aV;go_wp2_with fail;go_roundw;case rel=>exact⟨z+1,jl,by omega,rfl,congrArg (af ae) (by omega),congrArg (af ae) (by omega),by rw[aJ.out,<-List.append_assoc];exact cf.out,bN.out⟩
     case measure=>simp[intOf];omega
    ·obtain rfl:z=d.t.kids.length:=by omega
     rw[cP]at st;have b0:=aa st;clear st;go_wp2_with fail;go_roundw;case rel=>exact⟨j+1,bC,by omega,rfl,by go_num,by rw[bL.out];exact b0.out⟩
     case measure=>simp[intOf];omega
  ·obtain rfl:j=(aj 0 ts).length:=by omega
   rw[cP]at z;have Z:=aa z;clear z;go_wp2_with fail;go_ret;exact⟨_,rfl,Z.out⟩
theorem rL(t:Tree):(aO t).length=t.size:=nJ t
theorem Gn(a b:Tree)(budget:Int):∀p∈(bE (aO a) (aO b) budget).aR,0<=p.1/\p.1<a.size/\0<=p.2/\p.2<b.size:=fun p hp=>by have h:=(qe (qf (kr a) (kr b) budget)).2.2 p hp;unfold bZ at h;rw[rL,rL]at h;exact h
theorem Gp(a b:Tree)(budget:Int):0<=(bE (aO a) (aO b) budget).cost:=(uI (qf (kr a) (kr b) budget)).2.2
theorem Gq(a b:Tree)(budget:Int):(bE (aO a) (aO b) budget).cost<=a.size+b.size:=by have h:=(qe (qf (kr a) (kr b) budget)).1;have w:=(qd (aO a) (aO b) (bE (aO a) (aO b) budget).aR).2;rw[rL,rL]at h;omega
theorem Gr(a b:Tree)(budget:Int)(ha:a.size<=262144)(J:b.size<=262144):0<=hI budget a b/\hI budget a b<=1048576:=by
 have G:=Gp a b budget;have h1:=Gq a b budget;unfold hI;split
 ·split;·omega
  ·omega
 ·omega
theorem rM{m:Nat}:∀(G:List Tree) (n:Nat) (d:cF),d∈dt m n G->d.module=m/\n<=d.number/\d.number+d.t.size<=n+ax G/\d.t∈G
 |[],n,d,h=>by simp[dt]at h
 |k::G,n,d,h=>by
  rw[dt]at h;rw[gR];rcases b8.1 h with rfl|h;·exact⟨rfl,kI _,by simp only;omega,eu⟩
  ·obtain⟨h1,h2,O,J⟩:=rM G (n+k.size) d h;exact⟨h1,by omega,by omega,cW _ J⟩
theorem mT:∀(ts:List Tree) (m:Nat) (d:cF),d∈aj m ts->m<=d.module/\d.module<m+ts.length/\1<=d.number/\d.number+d.t.size<=(ts.getD (d.module-m) default).size/\d.t∈(ts.getD (d.module-m) default).kids
 |[],m,d,h=>by simp[aj]at h
 |t::ts,m,d,h=>by
  rw[aj]at h;rcases xm.1 h with h|h
  ·obtain⟨h1,h2,J,G⟩:=rM t.kids 1 d h;have hz:=t.size_eq;subst h1;refine⟨kI _,by simp,h2,?_,?_⟩;·rw[kH];show d.number+d.t.size<=t.size;omega
   ·rw[kH];exact G
  ·obtain⟨h1,h2,J,G,O⟩:=mT ts (m+1) d h;have e:d.module-m=(d.module-(m+1))+1:=by omega
   refine⟨by omega,by simp only[List.length_cons];omega,J,?_,?_⟩;·rw[e];exact G
   ·rw[e];exact O
section
variable {ck:Int->ByteArray->List Nat->ByteArray}
mutual
theorem Gs(m:Nat):∀(t:Tree) (n:Nat) (kn:List ByteArray),∀x∈(cS ck m t n kn).1,x.module=m/\n<=x.number/\0<x.size/\x.number+x.size<=n+t.size
 | .node k s ls J,n,kn,x,hx=>by
  rw[cS]at hx;simp only[Tree.size];rcases b8.1 hx with rfl|hx;·exact⟨rfl,kI _,by simp,by simp only;omega⟩
  ·obtain⟨h1,h2,G,O⟩:=uN m J (n+1) kn x hx;exact⟨h1,by omega,G,by omega⟩
theorem uN(m:Nat):∀(ts:List Tree) (n:Nat) (kn:List ByteArray),∀x∈(bz ck m ts n kn).1,x.module=m/\n<=x.number/\0<x.size/\x.number+x.size<=n+ax ts
 |[],n,kn,x,hx=>by simp[bz]at hx
 |t::ts,n,kn,x,hx=>by
  rw[bz]at hx;simp only at hx;rw[gR];rcases xm.1 hx with hx|hx;·obtain⟨h1,h2,G,J⟩:=Gs m t n kn x hx;exact⟨h1,h2,G,by omega⟩
  ·obtain⟨h1,h2,G,J⟩:=uN m ts (n+t.size) _ x hx;exact⟨h1,by omega,G,by omega⟩
end
theorem rN(ts:List Tree)(kn:List ByteArray):∀x∈(dk ck (aj 0 ts) kn).1,x.module<ts.length/\0<x.size/\1<=x.number/\x.number+x.size<=(ts.getD x.module default).size:=by
 have key:∀(ds:List cF),(∀d∈ds,d∈aj 0 ts)->∀(s:List bq×List ByteArray),(∀x∈s.1,x.module<ts.length/\0<x.size/\1<=x.number/\x.number+x.size<=(ts.getD x.module default).size)->
   ∀x∈(ds.foldl (gG ck) s).1,x.module<ts.length/\0<x.size/\1<=x.number/\x.number+x.size<=(ts.getD x.module default).size:=by
  intro ds;induction ds with
  |nil=>intro _ s hs;exact hs
  |cons d ds O=>
   intro hd s hs;rw[dK];refine O (fun e he=>hd e (cW _ he)) _ fun x hx=> ?_;unfold gG at hx;simp only at hx;rcases xm.1 hx with hx|hx;·exact hs x hx
   ·obtain⟨h1,h2,J,ak⟩:=uN d.module d.t.kids (d.number+1) s.2 x hx;obtain⟨g1,g2,Y,G,ab⟩:=mT ts 0 d (hd d eu);have hz:=d.t.size_eq;rw[Nat.sub_zero]at G;rw[h1];exact⟨by omega,J,by omega,by omega⟩
 exact key _ (fun d hd=>hd) _ fun x hx=>by cases hx
end
attribute [local go_sem↓] Go.wp_at_zero Go.wp_at_succ
theorem Has.qo{w:World}{b:Nat}{c:Array Value}(x:Has w b c)(i:Nat)(G:i<c.size)(v:Value):Has (w.setCell ⟨b,i,none⟩ v) b (c.setIfInBounds i v):=by
 refine⟨by simpa[ef]using x.lt,fun o=> ?_,fun o=>by have:=x.fz o;simp[this]⟩;by_cases e:o=i;·subst e;rw[World.cell?_setCell_same _ _ _ ((x.cl o).trans (Array.getElem?_eq_getElem G))];simp[G]
 ·rw[World.cell?_setCell_other _ _ _ _ (by simp),x.cl o];rw[Array.getElem?_setIfInBounds_ne (fun h=>e h.symm)]
theorem Bx.aM{h:Hp}{w:World}{b:Nat}{a0 Y ab aj:Value}(x:Bx h w b #[a0,Y,ab,aj])(v0 G J O:Value):Bx h ((((w.setCell ⟨b,0,none⟩ v0).setCell ⟨b,1,none⟩ G).setCell ⟨b,2,none⟩ J).setCell ⟨b,3,none⟩ O) b #[v0,G,J,O]:=by have:=(((x.has.qo 0 (by simp) v0).qo 1 (by simp) G).qo 2 (by simp) J).qo 3 (by simp) O;exact⟨by simpa using this,x.no⟩
theorem Bx.IC{h:Hp}{w:World}{b b':Nat}{c:Array Value}(x:Bx h w b c)(G:b'≠b)(v0 J O Y:Value):Bx h ((((w.setCell ⟨b',0,none⟩ v0).setCell ⟨b',1,none⟩ J).setCell ⟨b',2,none⟩ O).setCell ⟨b',3,none⟩ Y) b c:=
 ⟨(((x.has.ne G 0 v0).ne G 1 J).ne G 2 O).ne G 3 Y,x.no⟩
theorem Bx.drew{h:Hp}{w:World}{b:Nat}{c:Array Value}(x:Bx h w b c):Bx h w.drew b c:=⟨x.has.drew,x.no⟩
theorem ID{g:Nat}{L:List Int}{h Y:Hp}{w O:World}{b:Nat}{G J:Tree}{am aj ao ak:Option Addr}{aM ax aN aB:Nat}{Z:Array Value}{aY aZ a1 a2:Value}(aP:aL g L h w Y O)(B:Bx Y O w.heap.size Z)(aO:Bx Y O b #[aY,aZ,a1,a2])(aS:bg Y G [af ae G.kind,ah G.text,ag am G.leads.length aM,ag aj G.kids.length ax])(aT:bg Y J [af ae J.kind,ah J.text,ag ao J.leads.length aN,ag ak J.kids.length aB])(aV:w.heap.size<=b)(aX:b≠w.heap.size)(ab:ByteArray):
  ∃h7,aL g L h w h7 (((((O.setCell ⟨b,0,none⟩ (af ae 21)).setCell ⟨b,1,none⟩ (ah ab)).setCell ⟨b,2,none⟩ (ag none 0 0)).setCell ⟨b,3,none⟩ (ag (some ⟨O.heap.size,0,none⟩) 2 2)).alloc (au #[af ae G.kind,ah G.text,ag am G.leads.length aM,ag aj G.kids.length ax,af ae J.kind,ah J.text,ag ao J.leads.length aN,ag ak J.kids.length aB] 26))/\
   Bx h7 (((((O.setCell ⟨b,0,none⟩ (af ae 21)).setCell ⟨b,1,none⟩ (ah ab)).setCell ⟨b,2,none⟩ (ag none 0 0)).setCell ⟨b,3,none⟩ (ag (some ⟨O.heap.size,0,none⟩) 2 2)).alloc (au #[af ae G.kind,ah G.text,ag am G.leads.length aM,ag aj G.kids.length ax,af ae J.kind,ah J.text,ag ao J.leads.length aN,ag ak J.kids.length aB] 26)) w.heap.size Z/\
   Bx h7 (((((O.setCell ⟨b,0,none⟩ (af ae 21)).setCell ⟨b,1,none⟩ (ah ab)).setCell ⟨b,2,none⟩ (ag none 0 0)).setCell ⟨b,3,none⟩ (ag (some ⟨O.heap.size,0,none⟩) 2 2)).alloc (au #[af ae G.kind,ah G.text,ag am G.leads.length aM,ag aj G.kids.length ax,af ae J.kind,ah J.text,ag ao J.leads.length aN,ag ak J.kids.length aB] 26)) b #[af ae 21,ah ab,ag none 0 0,ag (some ⟨O.heap.size,0,none⟩) 2 2]/\
   bg h7 (.node 21 ab [] [G,J]) [af ae 21,ah ab,ag none 0 0,ag (some ⟨O.heap.size,0,none⟩) 2 2]:=by
 have aQ:Y.le (Y.add O.heap.size ([af ae G.kind,ah G.text,ag am G.leads.length aM,ag aj G.kids.length ax,af ae J.kind,ah J.text,ag ao J.leads.length aN,ag ak J.kids.length aB]:List Value).toArray):=Hp.eG _ aP.I.iI;have a3:=B.has.lt;have l2:=aO.has.lt
 exact⟨_,(aP.aM aV aO.no (af ae 21) (ah ab) (ag none 0 0) (ag (some ⟨O.heap.size,0,none⟩) 2 2)).lay [af ae G.kind,ah G.text,ag am G.leads.length aM,ag aj G.kids.length ax,af ae J.kind,ah J.text,ag ao J.leads.length aN,ag ak J.kids.length aB] 26 O.heap.size (by simp[ef]),
  ((B.IC aX _ _ _ _).alloc _).add _ (by omega),((aO.aM _ _ _ _).alloc _).add _ (by omega),
  wa (jL (jM _ _ _) ((aJ.one (aS.mono aQ)).append (aJ.one (aT.mono aQ))) 2 rfl (by simp) _ (by unfold aG;omega) _)⟩
theorem CF(m B:Nat)(hm:m<=100)(E:lI m B)(h:Hp)(w:World)(aQ:ao h w)(g:Nat)(L:List Int)(n:Nat)(d:cA h w g L n)(hr:a8 L n 14=12):Calls ai 120 #[az (some ⟨g,0,none⟩),af ae ((m+1:Nat):Int)] w (fQ g L h w (ME (3*B+6))):=by
 have cS:=aa aQ;have D:=aa d;have dF:=aa hr;have ep:=d.lt;clear aQ d hr;have el:((m+1:Nat):Int)-1=(m:Int):=by omega
 have em:¬((m+1:Nat):Int)<1:=by omega
 have en:(m:Int)+1-1=(m:Int):=by omega
 have bS:=aa E;clear E;go_in;go_wp2_with fail;have B0:=aa (Bx.new cS.out #[af ae 0,ah ⟨#[]⟩,ag none 0 0,ag none 0 0] 26);have cU:=aa ((aL.refl cS.out D.out).alloc (au #[af ae 0,ah ⟨#[]⟩,ag none 0 0,ag none 0 0] 26));refine(dW h _ cU.out.I g L n (D.out.alloc _) 14 (by omega) (by omega)).mono ?_;rintro e w1 ⟨rfl,bV⟩;rw[dF.out];have cF:=aa (B0.out.call bV (by omega));have b0:=aa (cU.out.call bV);obtain⟨dZ,bI⟩:=b0.out.bj;have bI:=aa bI;have eD:w.heap.size<w1.heap.size:=cF.out.has.lt;clear bV;go_wp2_with fail;refine(jn h _ (b0.out.I.alloc _) g L dZ (bI.out.alloc _) w1.heap.size 5 5 #[ah ⟨#[43]⟩,ah ⟨#[45]⟩,ah ⟨#[42]⟩,ah ⟨#[60]⟩,ah ⟨#[61,61]⟩] (Has.new w1 _ _) (by omega) (by omega) (by omega) (fun i aQ=>ik [ah ⟨#[43]⟩,ah ⟨#[45]⟩,ah ⟨#[42]⟩,ah ⟨#[60]⟩,ah ⟨#[61,61]⟩] (fu 21) (by kernel_rfl) i aQ)).mono ?_;rintro e w2 ⟨aS,rfl,bB,bX⟩;have bB:=aa bB;have cG:=aa ((cF.out.alloc _).call bX (by omega));have b9:=aa ((b0.out.alloc _).call bX);obtain⟨d1,bJ⟩:=b9.out.bj;have bJ:=aa bJ;have eE:w.heap.size<w2.heap.size:=cG.out.has.lt;clear bX;go_wp2_with fail;refine(Lg bS.out h _ b9.out.I g L d1 bJ.out).mono ?_;rintro e w3 ⟨dv,rfl,bE,G,bY,cc,cX⟩;obtain⟨a5,ba,a4,a9,-,rfl,-,-,-,-,-,-⟩:=cc.open;have cK:=aa (cG.out.call bY (by omega));have aj:=aa (b9.out.call bY);obtain⟨cq,bL⟩:=aj.out.bj;have bL:=aa bL;have cQ:=aa (wa cc);have eF:w.heap.size<w3.heap.size:=cK.out.has.lt;clear bY cc;go_wp2_with fail;have dA:=aa (Bx.new aj.out.I #[af ae G.kind,ah G.text,ag a5 G.leads.length ba,ag a4 G.kids.length a9] 26);refine(dW bE _ (aj.out.I.alloc _) g L cq (bL.out.alloc _) 3 (by omega) (by omega)).mono ?_;rintro e bm ⟨rfl,bC⟩;have ek:=jo L cq 3 (by omega);generalize a8 L cq 3=cz at*;have aV:=aa ((cK.out.alloc _).call bC (by omega));have aY:=aa (dA.out.call bC (by have:=aj.out.lt;omega));have am:=aa ((aj.out.alloc _).call bC);obtain⟨du,aO⟩:=am.out.bj;have aO:=aa aO;have eG:w.heap.size<bm.heap.size:=aV.out.has.lt;have er:w3.heap.size<bm.heap.size:=aY.out.has.lt;clear bC;have hc:cz=0\/cz=1\/cz=2:=by omega
 rcases hc with rfl|rfl|rfl
 ·have⟨⟨co,k1,k2,k3⟩,cB,cC,cD,cE⟩:=aV.out.four;have⟨⟨cg,c1,c2,c3⟩,ch,ci,cj,cl⟩:=aY.out.four;have dp:w3.heap.size≠g:=by have:=aj.out.lt;omega
  have dr:w.heap.size≠w3.heap.size:=by omega
  have cn:w3.heap.size≠w.heap.size:=by omega
  have ey:w3.heap.size<bm.heap.size+1:=by omega
  go_wp2_with fail;go_region_law(first|(go_simp;go_at_call 118;refine(jn bE _ (by exact(am.out.I.alloc _).drew) g L du (by exact(aO.out.alloc _).drew) bm.heap.size 2 2 #[ah ⟨#[43]⟩,ah ⟨#[42]⟩] (by exact(Has.new bm _ _).drew) (by omega) (by omega) (by omega) (fun i aQ=>ik [ah ⟨#[43]⟩,ah ⟨#[42]⟩] (fu 21) (by kernel_rfl) i aQ)).mono ?_;rintro e O ⟨aT,rfl,bT,J⟩;have bT:=aa bT;have aM:=aa (((aV.out.alloc _).drew).call J (by omega));have aN:=aa (((aY.out.alloc _).drew).call J dp);have aP:=aa ((am.out.alloc _).drew.call J);obtain⟨d2,bN⟩:=aP.out.bj;have bN:=aa bN;have dt:w.heap.size<O.heap.size:=aM.out.has.lt;have dX:w3.heap.size<O.heap.size:=aN.out.has.lt;have⟨⟨bp,bq,bv,bz⟩,g0,g1,g2,cm⟩:=aN.out.four;clear J)|(go_simp;go_at_call 169;refine(Lg wF bE _ aP.out.I g L d2 bN.out).mono ?_;rintro e ak ⟨eK,rfl,eo,bg,a2,ce,dO⟩;obtain⟨dR,dU,dQ,dT,-,rfl,-,-,-,-,-,-⟩:=ce.open;have cM:=aa (aM.out.call a2 (by omega));have bH:=aa (aN.out.call a2 dp);have dG:=aa (aP.out.call a2);have dC:=aa (wa ce);have dE:=aa (cQ.out.mono a2.le);have eH:w.heap.size<ak.heap.size:=cM.out.has.lt;have ez:w3.heap.size<ak.heap.size:=bH.out.has.lt;have eA:w3.heap.size<ak.heap.size+1:=(by omega);have⟨⟨d4,d5,d6,d7⟩,v0,d8,d9,dv⟩:=bH.out.four;clear a2 ce))
  all_goals
   obtain⟨h7,ax,aX,aZ,bR⟩:=ID (b:=w3.heap.size) dG.out cM.out bH.out dE.out dC.out (by omega) cn aT;have ax:=aa ax;have aX:=aa aX;have aZ:=aa aZ;have bR:=aa bR;generalize dn:(((((ak.setCell ⟨w3.heap.size,0,none⟩ (af ae 21)).setCell ⟨w3.heap.size,1,none⟩ (ah aT)).setCell ⟨w3.heap.size,2,none⟩ (ag none 0 0)).setCell ⟨w3.heap.size,3,none⟩ (ag (some ⟨ak.heap.size,0,none⟩) 2 2)).alloc (au #[af ae G.kind,ah G.text,ag a5 G.leads.length ba,ag a4 G.kids.length a9,af ae bg.kind,ah bg.text,ag dR bg.leads.length dU,ag dQ bg.kids.length dT] 26))=dw at*;have ej:=aa dn;clear dn;obtain⟨d3,a1⟩:=ax.out.bj;have a1:=aa a1;have eI:w.heap.size<dw.heap.size:=aX.out.has.lt;have eB:w3.heap.size<dw.heap.size:=aZ.out.has.lt;clear d4 d5 d6 d7 v0 d8 d9 dv bp bq bv bz g0 g1 g2 cm co k1 k2 k3 cB cC cD cE cg c1 c2 c3 ch ci cj cl;have⟨⟨co,k1,k2,k3⟩,cB,cC,cD,cE⟩:=aX.out.four;have⟨⟨cg,c1,c2,c3⟩,ch,ci,cj,cl⟩:=aZ.out.four;go_wp2_with fail;have ea:ae.wrap (m:Int)=m:=bA (by omega);have dr:w.heap.size≠w3.heap.size:=by omega
   have cn:w3.heap.size≠w.heap.size:=by omega
   go_region_held3(fun w'=>w'.cell? ⟨w3.heap.size,0,none⟩=some (af ae 21)/\w'.cell? ⟨w3.heap.size,1,none⟩=some (ah aT)/\w'.cell? ⟨w3.heap.size,2,none⟩=some (ag none 0 0)/\w'.cell? ⟨w3.heap.size,3,none⟩=some (ag (some ⟨ak.heap.size,0,none⟩) 2 2)) (first|go_keep|exact⟨bp,bq,bv,bz⟩) (first|(go_at_call 169;refine(Lg bS.out h7 _ (by exact ax.out.I.drew) g L d3 (by exact a1.out.drew)).mono ?_;rintro e aB ⟨eL,rfl,dm,ab,a3,cf,dP⟩;obtain⟨c8,di,cZ,dg,-,rfl,-,-,-,-,-,-⟩:=cf.open;have bG:=aa ((aX.out.call ((aL.refl ax.out.I a1.out).drew.call a3) (by omega)));have cN:=aa ((aZ.out.call ((aL.refl ax.out.I a1.out).drew.call a3) (by have:=aj.out.lt;omega)));have cV:=aa (ax.out.drew.call a3);have dD:=aa (wa cf);have bO:=aa (bR.out.mono a3.le);have dY:w.heap.size<aB.heap.size:=bG.out.has.lt;have eC:w3.heap.size<aB.heap.size:=cN.out.has.lt;have⟨⟨ct,cu,cv,cw⟩,eb,ec,ed,ei⟩:=bG.out.four;have⟨⟨bp,bq,bv,bz⟩,g0,g1,g2,cm⟩:=cN.out.four;clear a3 cf));have hy:w.heap.size<aB.heap.size+1:=by omega
   go_wp2_with fail;refine aF (v:= .agg #[af ae 21,ah aS,ag none 0 0,ag (some ⟨aB.heap.size,0,none⟩) 2 2]) (by simp[results,j1,go_sem,ct,cu,cv,cw,dY]) rfl ?_;have bZ:=(cV.out.aM (kI _) bG.out.no (af ae 21) (ah aS) (ag none 0 0) (ag (some ⟨aB.heap.size,0,none⟩) 2 2)).lay [af ae 21,ah aT,ag none 0 0,ag (some ⟨ak.heap.size,0,none⟩) 2 2,af ae ab.kind,ah ab.text,ag c8 ab.leads.length di,ag cZ ab.kids.length dg] 26 aB.heap.size (by simp[ef]);have bd:dm.le (dm.add aB.heap.size ([af ae 21,ah aT,ag none 0 0,ag (some ⟨ak.heap.size,0,none⟩) 2 2,af ae ab.kind,ah ab.text,ag c8 ab.leads.length di,ag cZ ab.kids.length dg]:List Value).toArray):=Hp.eG _ cV.out.I.iI;exact⟨_,rfl,_,.node 21 aS [] [(.node 21 aT [] [G,bg]),ab],bZ,jL (jM _ _ _) ((aJ.one (bO.out.mono bd)).append (aJ.one (dD.out.mono bd))) 2 rfl (by simp) _ (by unfold aG;omega) _,HI bB.out bT.out cX dO dP (by omega)⟩
 iterate 2
  ·have⟨⟨co,k1,k2,k3⟩,cB,cC,cD,cE⟩:=aV.out.four;have⟨⟨cg,c1,c2,c3⟩,ch,ci,cj,cl⟩:=aY.out.four;go_wp2_with fail;have ea:ae.wrap (m:Int)=m:=bA (by omega);have dr:w.heap.size≠w3.heap.size:=by omega
   have cn:w3.heap.size≠w.heap.size:=by omega
   go_region_held3(fun w'=>w'.cell? ⟨w3.heap.size,0,none⟩=some (af ae G.kind)/\w'.cell? ⟨w3.heap.size,1,none⟩=some (ah G.text)/\w'.cell? ⟨w3.heap.size,2,none⟩=some (ag a5 G.leads.length ba)/\w'.cell? ⟨w3.heap.size,3,none⟩=some (ag a4 G.kids.length a9)) (first|go_keep|exact⟨bp,bq,bv,bz⟩) (first|(go_at_call 169;refine(Lg bS.out bE _ (by exact am.out.I.drew) g L du (by exact aO.out.drew)).mono ?_;rintro e O ⟨eJ,rfl,dk,Y,J,cd,dN⟩;obtain⟨c6,dh,cY,c9,-,rfl,-,-,-,-,-,-⟩:=cd.open;have aM:=aa ((aV.out.call ((aL.refl am.out.I aO.out).drew.call J) (by omega)));have aN:=aa ((aY.out.call ((aL.refl am.out.I aO.out).drew.call J) (by have:=aj.out.lt;omega)));have aP:=aa (am.out.drew.call J);have dB:=aa (wa cd);have bO:=aa (cQ.out.mono J.le);have dt:w.heap.size<O.heap.size:=aM.out.has.lt;have dX:w3.heap.size<O.heap.size:=aN.out.has.lt;have⟨⟨ct,cu,cv,cw⟩,eb,ec,ed,ei⟩:=aM.out.four;have⟨⟨bp,bq,bv,bz⟩,g0,g1,g2,cm⟩:=aN.out.four;clear J cd));have hy:w.heap.size<O.heap.size+1:=by omega
   go_wp2_with fail;refine aF (v:= .agg #[af ae 21,ah aS,ag none 0 0,ag (some ⟨O.heap.size,0,none⟩) 2 2]) (by simp[results,j1,go_sem,ct,cu,cv,cw,dt]) rfl ?_;have bZ:=(aP.out.aM (kI _) aM.out.no (af ae 21) (ah aS) (ag none 0 0) (ag (some ⟨O.heap.size,0,none⟩) 2 2)).lay [af ae G.kind,ah G.text,ag a5 G.leads.length ba,ag a4 G.kids.length a9,af ae Y.kind,ah Y.text,ag c6 Y.leads.length dh,ag cY Y.kids.length c9] 26 O.heap.size (by simp[ef]);have bd:dk.le (dk.add O.heap.size ([af ae G.kind,ah G.text,ag a5 G.leads.length ba,ag a4 G.kids.length a9,af ae Y.kind,ah Y.text,ag c6 Y.leads.length dh,ag cY Y.kids.length c9]:List Value).toArray):=Hp.eG _ aP.out.I.iI;exact⟨_,rfl,_,.node 21 aS [] [G,Y],bZ,jL (jM _ _ _) ((aJ.one (bO.out.mono bd)).append (aJ.one (dB.out.mono bd))) 2 rfl (by simp) _ (by unfold aG;omega) _,Ak bB.out cX dN (by omega)⟩
structure KL(g:Nat)(L:List Int)(h:Hp)(w:World)(b:Nat)(k:Int)(s:ByteArray)(Z:Array Value)(ts:List Tree)(hj:Hp)(v:Value)(vs:List Value)(wr:World):Prop where
 st:aL g L h w hj wr
 own:Ow wr hj w.heap.size 26 4 v ts.length vs
 enc:aJ (bg hj) ts vs
 bx:Bx hj wr b #[af ae k,ah s,ag none 0 0,v]
 rb:Bx hj wr w.heap.size Z
 ne:v.ownBlock≠some b
 nz:v.ownBlock≠some w.heap.size
 lo:w.heap.size<b
section
variable {g:Nat} {L:List Int} {h hj hz:Hp} {w wr wz w3:World} {b m:Nat} {k:Int} {s:ByteArray} {Z:Array Value} {ts tn:List Tree} {v v':Value} {vs news:List Value}
theorem Ow.dst{B:Nat}{T:TypeId}{q n:Nat}(o:Ow wr hj B T q v n vs)(S:aL g L hj wr hz wz)(G:g<B):Ow wz hz B T q v n vs:=
 o.keep (fun x hx=>S.gr.block x (o.lt x hx).2 (fun e=>by have:=(o.lt x hx).1;have:=aU e;omega)) (fun x hx=>S.aI x (o.lt x hx).2)
theorem KL.pG(K:KL g L h w b k s Z ts hj v vs wr)(S:aL g L hj wr hz wz):Ow wz hz w.heap.size 26 4 v ts.length vs:=K.own.dst S K.st.lt
theorem KL.gb(K:KL g L h w b k s Z ts hj v vs wr):b≠g/\w.heap.size≠g:=by have:=K.lo;have:=K.st.lt;omega
theorem KL.fR(K:KL g L h w b k s Z ts hj v vs wr)(S:aL g L hj wr hz wz):Bx hz wz b #[af ae k,ah s,ag none 0 0,v]:=K.bx.call S K.gb.1
theorem KL.vn(K:KL g L h w b k s Z ts hj v vs wr)(S:aL g L hj wr hz wz):Bx hz wz w.heap.size Z:=K.rb.call S K.gb.2
theorem aL.grown{row:Option Nat}(S:aL g L h w hj wr)(G:wr.grownBy wz row)(hr:∀q,row=some q->w.heap.size<=q/\hj q=none):aL g L h w hj wz:=by obtain⟨n,d⟩:=S.bj;have J:=S.lt;refine⟨kc S.gr G (fun q O=> .inr (hr q O).1),S.I.keep fun x c hc=>G.block x (cD (S.I x c hc)) (fun e=>by rw[(hr x e.symm).2]at hc;cases hc),S.le,S.aI,J,n,?_⟩;exact d.keep (G.block g d.lt (fun e=>by have:=(hr g e.symm).1;omega)) G.size (Hp.le_refl _) d.free
theorem Bx.grown{row:Option Nat}{c:Array Value}(x:Bx hj wr b c)(G:wr.grownBy w3 row)(hr:row≠some b):Bx hj w3 b c:=
 ⟨⟨Nat.lt_of_lt_of_le x.has.lt G.size,fun o=>(G.cellOf x.has.lt hr).1.trans (x.has.cl o),fun o=>(G.cellOf x.has.lt hr).2.trans (x.has.fz o)⟩,x.no⟩
theorem KL.next(K:KL g L h w b k s Z ts hj v vs wr)(S:aL g L hj wr hz wz)(aG:Ow w3 hz w.heap.size 26 4 v' (ts.length+m) (vs++news))(G:wz.grownBy w3 v.ownBlock)(O:v'.ownBlock=v.ownBlock\/v'.ownBlock=some wz.heap.size)(ao:aJ (bg hz) tn news)(hm:tn.length=m):KL g L h w b k s Z (ts++tn) hz v' (vs++news) (w3.setCell ⟨b,3,none⟩ v'):=by
 subst hm;have am:=K.st.call S;have ak:aL g L h w hz w3:=am.grown G (fun q J=>⟨(K.own.lt q J).1,by rw[S.aI q (K.own.lt q J).2];exact K.own.free q J⟩);have Y:=(K.fR S).grown G K.ne;have aj:=(K.vn S).grown G K.nz;have aM:=(K.fR S).has.lt;have l2:=(K.vn S).has.lt;have ax:=K.lo
 have ab:v'.ownBlock≠some b:=fun e=>by
  rcases O with h1|h1;·exact K.ne (by rw[<-h1,e])
  ·rw[h1]at e;have:=aU e;omega
 have aB:v'.ownBlock≠some w.heap.size:=fun e=>by
  rcases O with h1|h1;·exact K.nz (by rw[<-h1,e])
  ·rw[h1]at e;have:=aU e;omega
 refine⟨ak.setCell (p:=⟨b,3,none⟩) (by show w.heap.size<=b;omega) (K.fR S).no v',?_,(K.enc.mono fun _ _ r=>r.mono S.le).append ao,?_,⟨aj.has.ne (by omega) 3 v',aj.no⟩,ab,aB,ax⟩;·rw[cI];exact aG.setCell (p:=⟨b,3,none⟩) ab v'
 ·have:=Y.has.qo 3 (by simp) v';exact⟨by simpa using this,Y.no⟩
theorem KL.fin(K:KL g L h w b k s Z ts hj v vs wr)(ao:aG k)(aM:ts.length<=1000)(v0 Y ab aj:Value):∃h',aL g L h w h' ((((wr.setCell ⟨w.heap.size,0,none⟩ v0).setCell ⟨w.heap.size,1,none⟩ Y).setCell ⟨w.heap.size,2,none⟩ ab).setCell ⟨w.heap.size,3,none⟩ aj)/\aP h' (.agg #[af ae k,ah s,ag none 0 0,v]) (.node k s [] ts):=by
 have G:=K.st.aM (kI _) K.rb.no v0 Y ab aj;have aJ:=(((K.own.setCell (p:=⟨w.heap.size,0,none⟩) K.nz v0).setCell (p:=⟨w.heap.size,1,none⟩) K.nz Y).setCell (p:=⟨w.heap.size,2,none⟩) K.nz ab).setCell (p:=⟨w.heap.size,3,none⟩) K.nz aj;obtain⟨h',ax,O,ak,aB⟩:=aJ.giveUp G.I (by omega);obtain⟨a,c,rfl⟩:=K.own.shape;obtain⟨n,d⟩:=G.bj;have am:=G.lt;refine⟨h',⟨G.gr,ax,Hp.le_trans G.le O,fun x hx=> ?_,am,n,d.keep rfl (kI _) O ?_⟩,[af ae k,ah s,ag none 0 0,ag a ts.length c],rfl,?_⟩;·rw[ak x (fun q J e=>by have:=(K.own.lt q J).1;omega)];exact G.aI x hx
 ·rw[ak g (fun q J e=>by have:=(K.own.lt q J).1;omega)];exact d.free
 ·rw[bg];exact⟨none,0,a,c,vs,rfl,ao,Sl.nil _ _ _ _,aB,eH.iff.2 (K.enc.mono fun _ _ r=>r.mono O)⟩
theorem KL.call(K:KL g L h w b k s Z ts hj v vs wr)(S:aL g L hj wr hz wz):KL g L h w b k s Z ts hz v vs wz:=
 ⟨K.st.call S,K.pG S,K.enc.mono fun _ _ r=>r.mono S.le,K.fR S,K.vn S,K.ne,K.nz,K.lo⟩
theorem KL.start(S:aL g L h w hj wr)(R:Bx hj wr w.heap.size Z)(k:Int)(s:ByteArray):KL g L h w wr.heap.size k s Z [] hj (ag none 0 0) [] (wr.alloc (.cells #[af ae k,ah s,ag none 0 0,ag none 0 0] 26)):=
 ⟨S.alloc _,Ow.nil _ _ _ _ _,rfl,Bx.new S.I _ _,R.alloc _,by simp[bW],by simp[bW],R.has.lt⟩
end
end Go.Proofs.YtdplggpbgommnaaGreatDoor
