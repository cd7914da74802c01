/- pairing.node. -/
import Derived.Test.YtdplggpbgommnaaGreatDoorG13
import Derived.Test.YtdplggpbgommnaaGreatDoorG15
open Bool renaming and_eq_true→cy
open Go renaming wpStill_nil→ig,wp_region_still_tail→ic
open Go.IntKind renaming i64→ae
open Go.Lib renaming hid→aa
open Go.Value renaming bool→ay,int→af,slice→ag
open Go.World renaming drew→dd
open Int renaming toNat_natCast→dy
open List renaming drop_succ_cons→gj,drop_zero→fm,flatMap_cons→fH,getD_eq_getElem?_getD→bb,getElem?_eq_getElem→aE,getElem?_map→jB,getElem_map→eU,getElem_mem→aK,getElem_range→v7,getLastD_cons→KD,length_append→cI,map_congr_left→jF,map_set→hL,mem_iff_getElem→ij,mem_map→b6,mem_range→ee,range→aw,take_length→cP,take_succ_cons→fl,take_zero→ie
open Nat renaming add_sub_cancel→pe,le_refl→an,zero_le→aW
open Option renaming map_some→fa
open Option.some renaming injEq→aC,inj→aU
set_option maxRecDepth 100000
set_option maxHeartbeats 4000000
namespace Go.Proofs.YtdplggpbgommnaaGreatDoor
open Go.RowKit
theorem o0{h:Hp}{a b:Nat}(A:h a≠none)(E:h b=none):a≠b:=fun e=>A (by rw[e];exact E)
theorem cu{h:Hp}{w:World}(E:ao h w){b:Nat}{c:Array Value}(A:h b=some c)(i:Nat):w.cell? ⟨b,i,none⟩=c[i]? :=pH (E b c A) i
theorem FC(l:List (Int×Int))(n:Nat)(p:Int×Int)(_hn:n<l.length):(l.set n p).flatMap bV=((l.flatMap bV).set (n*2) (af ae p.1)).set (n*2+1) (af ae p.2):=by
 induction l generalizing n with
 |nil=>simp at _hn
 |cons a l A=>
  cases n with
  |zero=>simp[bV]
  |succ n=>have:=A n (by simpa using _hn);rw[List.set_cons_succ,fH,this,fH,show(n+1)*2=n*2+2 by omega];simp[bV]
section
variable {h:Hp} {w w1:World} {B xb so sn:Nat} {budget:Int} {V:eL→Value} {s:bp}
theorem bH.tu{S:Nat→Prop}(q:bH h w B xb so sn budget V s)(t:Tu S w w1)(A:∀b,S b→h b=none∧b≠xb∧∀k,(V k).ownBlock≠some b):bH h w1 B xb so sn budget V s:=by obtain⟨M,x,o⟩:=q.box;exact⟨t.I q.I fun b E=>(A b E).1,q.rows.tu t fun k b E G=>(A b G).2.2 k E,q.aI,q.new,⟨M,x.tu t (fun e=>(A xb e).2.1 rfl),o⟩,q.xn,q.xr⟩
theorem bH.below(q:bH h w B xb so sn budget V s)(b:Below w.heap.size w w1):bH h w1 B xb so sn budget V s:=q.tu ((Tu.refl (fun _=>False) w).below b) fun _ e=>e.elim
theorem bH.p6{s':bp}(q:bH h w B xb so sn budget V s)(k:eL)(t:Tu (fun b=>(V k).ownBlock=some b) w w1)(o:Ow w1 h B (dD k) (dE k) (V k) (cf s' k) (ch s' k))(M:∀q,q≠k→cf s' q=cf s q∧ch s' q=ch s q)(h1:s'.ot.length=s.ot.length)(h2:s'.nt.length=s.nt.length)(A:s'.rs.length=s.rs.length)(E:s'.cost=s.cost)(G:s'.a7=s.a7):bH h w1 B xb so sn budget V s':=by
 obtain⟨ab,x,Y⟩:=q.box;refine⟨t.I q.I fun b O=>(q.rows.own k).free b O,q.rows.p6 k t o M,?_,?_,⟨ab,?_,?_⟩,q.xn,q.xr⟩;·rw[h1];exact q.aI
 ·rw[h2];exact q.new
 ·rw[E,G];exact x.tu t (q.xr k)
 ·rw[A];exact Y
theorem bH.FD(q:bH h w B xb so sn budget V s){m n:Nat}(M:m<s.rs.length)(O:n<(s.rs.getD m []).length){g c:Nat}(e:V (.rs m)=ag (some ⟨g,0,none⟩) (s.rs.getD m []).length c)(a b:Int):bH h ((w.setCell ⟨g,n*2,none⟩ (af ae a)).setCell ⟨g,n*2+1,none⟩ (af ae b)) B xb so sn budget V {s with rs:=eM s.rs m n (a,b)}:=by
 have o:=q.rows.own (.rs m);have Y:=o;simp only[dD,dE,cf,ch]at o;rw[e]at o;have A:=(o.set (n*2) (af ae a) (by omega)).set (n*2+1) (af ae b) (by omega);rw[←FC _ _ (a,b) O]at A;refine q.p6 (.rs m) (((Tu.refl _ _).set (p:=⟨g,n*2,none⟩) (.inl (by rw[e];rfl)) _).set (p:=⟨g,n*2+1,none⟩) (.inl (by rw[e];rfl)) _) ?_ ?_ rfl rfl (by simp[eM]) rfl rfl;·simp only[dD,dE,cf,ch,lW];rw[e,p7 _ _ _ _ M];exact A
 ·intro k G;cases k with
  |rs i=>have E:i≠m:=fun e=>G (by rw[e]);simp only[cf,ch,p8 _ _ _ _ _ E,and_self]
  |_=>exact⟨rfl,rfl⟩
theorem bH.FE(q:bH h w B xb so sn budget V s){m n:Nat}(M:m<s.nt.length)(O:n<(s.nt.getD m []).length){g c:Nat}(e:V (.nt m)=ag (some ⟨g,0,none⟩) (s.nt.getD m []).length c)(x:Bool):bH h (w.setCell ⟨g,n,none⟩ (ay x)) B xb so sn budget V {s with nt:=eM s.nt m n x}:=by
 have o:=q.rows.own (.nt m);simp only[dD,dE,cf,ch]at o;rw[e]at o;have A:=o.set n (ay x) (by omega);refine q.p6 (.nt m) ((Tu.refl _ _).set (p:=⟨g,n,none⟩) (.inl (by rw[e];rfl)) _) ?_ ?_ rfl (by simp[eM]) rfl rfl rfl;·simp only[dD,dE,cf,ch,lW];rw[e,p7 _ _ _ _ M];unfold dZ at A⊢;rw[hL];exact A
 ·intro k G;cases k with
  |nt i=>have E:i≠m:=fun e=>G (by rw[e]);simp only[cf,ch,p8 _ _ _ _ _ E,and_self]
  |_=>exact⟨rfl,rfl⟩
theorem bH.FF(q:bH h w B xb so sn budget V s){m n:Nat}(M:m<s.ot.length)(O:n<(s.ot.getD m []).length){g c:Nat}(e:V (.ot m)=ag (some ⟨g,0,none⟩) (s.ot.getD m []).length c)(x:Bool):bH h (w.setCell ⟨g,n,none⟩ (ay x)) B xb so sn budget V {s with ot:=eM s.ot m n x}:=by
 have o:=q.rows.own (.ot m);simp only[dD,dE,cf,ch]at o;rw[e]at o;have A:=o.set n (ay x) (by omega);refine q.p6 (.ot m) ((Tu.refl _ _).set (p:=⟨g,n,none⟩) (.inl (by rw[e];rfl)) _) ?_ ?_ (by simp[eM]) rfl rfl rfl rfl;·simp only[dD,dE,cf,ch,lW];rw[e,p7 _ _ _ _ M];unfold dZ at A⊢;rw[hL];exact A
 ·intro k G;cases k with
  |ot i=>have E:i≠m:=fun e=>G (by rw[e]);simp only[cf,ch,p8 _ _ _ _ _ E,and_self]
  |_=>exact⟨rfl,rfl⟩
end
theorem uB{h:Hp}{w:World}{B xb so sn:Nat}{budget:Int}{V:eL→Value}{s:bp}(q:bH h w B xb so sn budget V s)(m n t k:Nat)(aO:m<s.rs.length)(aB:n<(s.rs.getD m []).length)(aP:m<s.nt.length)(aQ:n<(s.nt.getD m []).length)(aS:t<s.ot.length)(aN:k<(s.ot.getD t []).length):Calls Tryz.prog 56 #[.pointer (some ⟨xb,0,none⟩),af ae m,af ae n,.agg #[af ae t,af ae k]] w fun e w'=>e= .returned (.tuple #[])∧bH h w' B xb so sn budget V (du s m n t k)∧Tu (fun b=>(V (.rs m)).ownBlock=some b∨(V (.nt m)).ownBlock=some b∨(V (.ot t)).ownBlock=some b) w w':=by
 obtain⟨tv,cC,cj,kv,Y,bg⟩:=q.aI;obtain⟨cQ,cE,cl,dR,aG,bd⟩:=q.new;obtain⟨cK,aj,bm⟩:=q.box;obtain⟨cg,bJ,rfl,cA,a3⟩:=bg.at q.I;obtain⟨ce,bI,rfl,cz,a2⟩:=bd.at q.I;obtain⟨ar,cr,rfl,cB,a4⟩:=bm.at q.I;obtain⟨aJ,bT,rfl,dk,aZ,a9⟩:=a3 t aS;obtain⟨bn,bS,rfl,dj,aY,bL⟩:=a2 m aP;obtain⟨ci,cF,rfl,dm,a1,cm⟩:=a4 m aO;have ad:=q.rows.own (.rs m);have ab:=q.rows.own (.nt m);have ac:=q.rows.own (.ot t);have am:=q.rows.apart (.rs m) (.nt m) (by simp);have ao:=q.rows.apart (.rs m) (.ot t) (by simp);have ak:=q.rows.apart (.nt m) (.ot t) (by simp);obtain⟨b9,c1,G⟩:=ad.shape;obtain⟨cc,c2,M⟩:=ab.shape;obtain⟨cd,c3,O⟩:=ac.shape;rw[G]at ad am ao a1;rw[M]at ab am ak aY;rw[O]at ac ao ak aZ;simp only[cf,dE,dD]at ad ab ac a1 aY aZ;obtain⟨A,rfl,-,dq,ax,aL,aM⟩:=ad.cell (by omega);obtain⟨E,rfl,-,dn,ba,aV,a5⟩:=ab.cell (by omega);obtain⟨go,rfl,-,dp,cn,aX,a8⟩:=ac.cell (by omega);have bV:=aj.cl 0;have bX:=aj.cl 1;have bY:=aj.cl 3;simp only[List.getElem?_toArray,List.getElem?_cons_zero,List.getElem?_cons_succ]at bV bX bY;have dv:=aj.lt;have cM:w.cell? ⟨so,5,none⟩=some (ag (some ⟨aJ,bT,none⟩) s.ot.length bJ):=cu q.I Y 5;have cN:w.cell? ⟨sn,5,none⟩=some (ag (some ⟨bn,bS,none⟩) s.nt.length bI):=cu q.I aG 5;have dt:=cD (q.I _ _ Y);have dr:=cD (q.I _ _ aG);have bz:∃v,w.cell? ⟨A,n*2,none⟩=some v:=⟨_,aL _ _ (by simp only[ch];exact(mE _ n aB).1)⟩
 have bA:∃v,w.cell? ⟨A,n*2+1,none⟩=some v:=⟨_,aL _ _ (by simp only[ch];exact(mE _ n aB).2)⟩
 obtain⟨q1,bz⟩:=bz;obtain⟨cG,bA⟩:=bA;have de:=aM (n*2);have dg:=aM (n*2+1);have bB:∃v,w.cell? ⟨E,n,none⟩=some v:=⟨ay ((s.nt.getD m [])[n]),aV n _ (by simp only[ch,dZ,jB,aE aQ,fa])⟩
 have bC:∃v,w.cell? ⟨go,k,none⟩=some v:=⟨ay ((s.ot.getD t [])[k]),aX k _ (by simp only[ch,dZ,jB,aE aN,fa])⟩
 obtain⟨bq,bB⟩:=bB;obtain⟨aT,bC⟩:=bC;have dh:=a5 n;have di:=a8 k;have bN:A≠E:=fun e=>am A rfl (by rw[e];rfl);have bO:A≠go:=fun e=>ao A rfl (by rw[e];rfl);have bR:E≠go:=fun e=>ak E rfl (by rw[e];rfl);have cv:xb≠A:=fun e=>q.xr (.rs m) (by rw[G,e];rfl);have cw:xb≠E:=fun e=>q.xr (.nt m) (by rw[M,e];rfl);have k1:so≠A:=o0 (by rw[Y];simp) ax;have k2:so≠E:=o0 (by rw[Y];simp) ba;have k3:sn≠A:=o0 (by rw[aG];simp) ax;have k4:aJ≠A:=o0 a9 ax;have k5:aJ≠E:=o0 a9 ba;have k6:bn≠A:=o0 bL ax;have co:E≠A:=fun e=>bN e.symm;have cq:go≠A:=fun e=>bO e.symm;have ct:go≠E:=fun e=>bR e.symm;have cS:(0:Int)≤(m:Int):=by omega
 have cV:(m:Int)<(s.rs.length:Int):=by omega
 have cX:(m:Int)<(s.nt.length:Int):=by omega
 have cY:(0:Int)≤(t:Int):=by omega
 have cZ:(t:Int)<(s.ot.length:Int):=by omega
 have c6:(0:Int)≤(n:Int):=by omega
 have c8:(n:Int)<((s.rs.getD m []).length:Int):=by omega
 have c9:(n:Int)<((s.nt.getD m []).length:Int):=by omega
 have db:(0:Int)≤(k:Int):=by omega
 have cU:(k:Int)<((s.ot.getD t []).length:Int):=by omega
 simp only[cf]at G M O
 have bv:Tu (fun b=>(V (.rs m)).ownBlock=some b∨(V (.nt m)).ownBlock=some b∨(V (.ot t)).ownBlock=some b) w (((((w.setCell ⟨A,n*2,none⟩ (af ae t)).setCell ⟨A,n*2+1,none⟩ (af ae k)).setCell ⟨E,n,none⟩ (ay true)).setCell ⟨go,k,none⟩ (ay true)).alloc (.cells #[af ae t,af ae k] 43)).drew.drew:=
  ((((((((Tu.refl _ _).set (p:=⟨A,n*2,none⟩) (.inl (.inl (by rw[G];rfl))) _).set (p:=⟨A,n*2+1,none⟩) (.inl (.inl (by rw[G];rfl))) _).set (p:=⟨E,n,none⟩) (.inl (.inr (.inl (by rw[M];rfl)))) _).set (p:=⟨go,k,none⟩) (.inl (.inr (.inr (by rw[O];rfl)))) _).alloc _).drew).drew)
 have aT:bH h (((((w.setCell ⟨A,n*2,none⟩ (af ae t)).setCell ⟨A,n*2+1,none⟩ (af ae k)).setCell ⟨E,n,none⟩ (ay true)).setCell ⟨go,k,none⟩ (ay true)).alloc (.cells #[af ae t,af ae k] 43)).drew.drew B xb so sn budget V (du s m n t k):=by have bq:=((q.FD aO aB G (t:Int) (k:Int)).FE (s:={s with rs:=eM s.rs m n ((t:Int),(k:Int))}) aP aQ M true).FF (s:={s with rs:=eM s.rs m n ((t:Int),(k:Int)),nt:=eM s.nt m n true}) aS aN O true;exact bq.below ((((Below.refl _ _).alloc (an _) _).drew).drew)
 have bE:=aa aT;have bG:=aa bv;clear aT bv q bg bd bm a3 a2 a4 aj ad ab ac am ao ak aL aV aX aM a5 a8 G M O Y aG;clear aB aQ aN aO aP aS;generalize(s.rs.getD m []).length=bZ at*;generalize(s.nt.getD m []).length=L2 at*;generalize(s.ot.getD t []).length=b0 at*;go_enter Tryz.func56,Tryz.ntmps56;go_wp2_with fail;refine ic 11 (by kernel_rfl) (by kernel_rfl) ?_;simp only[fl,ie,gj,fm];change wpStill _ _ (dd _) (fun a'=>wpList _ _ _ _ a' (dd _)) _ _;repeat still_step
 refine ig ?_;go_wp2_with fail;refine ic 14 (by kernel_rfl) (by kernel_rfl) ?_;simp only[fl,ie,gj,fm];change wpStill _ _ (dd _) (fun a'=>wpList _ _ _ _ a' (dd _)) _ _;repeat still_step
 refine ig ?_;go_wp2_with fail;refine bodyPost_end (results_none rfl _ _ _) rfl ?_;exact⟨rfl,bE.out,bG.out⟩
section
variable {drop add:List Int} {cost:List (List Int)}
theorem rJ(l:List Int)(k:Nat):(l.take (k+1)).sum=(l.take k).sum+l.getD k 0:=by
 rw[List.take_add_one,List.sum_append];cases h:l[k]?with
 |none=>simp[bb,h]
 |some v=>simp[bb,h]
theorem yZ:∀(E:List (Int×Int)) (A:Int×Int) (s r:Int),iu drop add cost A E s=some r→∀p,pS drop add cost (E.getLastD A) p→iu drop add cost A (E++[p]) s=some (r+(cg cost p.1.toNat p.2.toNat-drop.getD p.1.toNat 0-add.getD p.2.toNat 0))
 |[],A,s,r,h,p,G=>by simp only[iu,aC]at h;subst h;have M:pS drop add cost A p:=G;rw[List.nil_append,iu,if_pos M,iu]
 |q::E,A,s,r,h,p,G=>by
  rw[iu]at h;split at h;·rename_i O;rw[List.cons_append,iu,if_pos O];exact yZ E q _ r h p (by rw[KD]at G;exact G)
  ·cases h
theorem y0{α:Type}:∀(l:List α) (d:α),l.getLastD d=d∨l.getLastD d∈l
 |[],d=> .inl rfl
 |a::l,d=>by
  rw[KD];rcases y0 l a with h|h;·rw[h];exact .inr (by simp)
  ·exact .inr (List.mem_cons_of_mem _ h)
theorem rK:∀(f i j:Nat),i+j≤f→i≤drop.length→j≤add.length→∀s:Int,iu drop add cost (-1,-1) (bO drop add cost f i j).reverse s=some (s+pt drop add cost i j-(drop.take i).sum-(add.take j).sum)
 |0,i,j,h,_,_,s=>by
  obtain rfl:i=0:=by omega
  obtain rfl:j=0:=by omega
  simp[bO,iu,pt,lR]
 |f+1,i,j,h,ak,hj,s=>by
  rw[bO];split
  ·rename_i hz;split
   ·rename_i E;obtain⟨i,rfl⟩:∃k,i=k+1:=⟨i-1,by omega⟩
    obtain⟨j,rfl⟩:∃k,j=k+1:=⟨j-1,by omega⟩
    simp only[pe]at E⊢;have aj:=rK f i j (by omega) (by omega) (by omega) s;rw[List.reverse_cons,yZ _ _ _ _ aj ((i:Int),(j:Int)) ?_];·simp only[dy,aC];rw[rJ,rJ,E.2.2.2];unfold cg;omega
    ·have Y:=y0 (bO drop add cost f i j).reverse (-1,-1)
     have G:((bO drop add cost f i j).reverse.getLastD (-1,-1)).1<(i:Int)∧((bO drop add cost f i j).reverse.getLastD (-1,-1)).2<(j:Int):=by
      rcases Y with e|ab;·rw[e];simp only;omega
      ·have:=nO drop add cost f i j _ (List.mem_reverse.1 ab);omega
     exact⟨G.1,G.2,by simp only;omega,by simp only;omega,by simp only[dy];exact E.2.2.1⟩
   ·rename_i E;split
    ·rename_i A;obtain⟨i,rfl⟩:∃k,i=k+1:=⟨i-1,by omega⟩
     simp only[pe]at A⊢;rw[rK f i j (by omega) (by omega) (by omega) s,rJ,A.2,aC];omega
    ·rename_i A
     have am:0<j:=by
      rcases Nat.eq_zero_or_pos j with rfl|M
      ·exfalso;apply A;obtain⟨i,rfl⟩:∃k,i=k+1:=⟨i-1,by omega⟩
       exact⟨by omega,oV drop add cost i⟩
      ·exact M
     obtain⟨j,rfl⟩:∃k,j=k+1:=⟨j-1,by omega⟩
     simp only[pe]at E A⊢
     have ac:pt drop add cost i (j+1)=pt drop add cost i j+add.getD j 0:=by
      cases i with
      |zero=>rfl
      |succ i=>
       simp only[pe]at E A;have ad:=oU drop add cost i j;split at ad;·rename_i O;have h1:¬pt drop add cost (i+1) (j+1)=pt drop add cost i j+(cost.getD i []).getD j 0:=fun e=>E ⟨by omega,by omega,O,e⟩;have h2:¬pt drop add cost (i+1) (j+1)=pt drop add cost i (j+1)+drop.getD i 0:=fun e=>A ⟨by omega,e⟩;omega
       ·have h2:¬pt drop add cost (i+1) (j+1)=pt drop add cost i (j+1)+drop.getD i 0:=fun e=>A ⟨by omega,e⟩;omega
     rw[rK f i j (by omega) (by omega) (by omega) s,rJ,ac,aC];omega
  ·rename_i hz;obtain rfl:i=0:=by omega
   obtain rfl:j=0:=by omega
   simp[iu,pt,lR]
theorem mS{i j:Nat}(A:i≤drop.length)(hj:j≤add.length):cg (iN drop add cost) i j=pt drop add cost i j:=by unfold cg iN;rw[dj (List.map (fun i=>(aw (add.length+1)).map (pt drop add cost i)) (aw (drop.length+1))) i [] (by simp;omega),eU,v7,dj _ _ _ (by simp;omega),eU,v7]
theorem y1(p:lS drop add cost):nR drop add cost (e0 drop add cost):=by
 refine⟨?_,by simp[e0,iN],?_,?_,?_,?_⟩;·unfold tR e0;rw[if_pos (tL.2 p)];simp only;rw[rK _ _ _ (an _) (an _) (an _),cP,cP,aC];omega
 ·intro r E;simp only[e0,iN,b6,ee]at E;obtain⟨i,G,rfl⟩:=E;refine⟨by simp,?_⟩;rw[pQ];intro v M;obtain⟨j,hj,rfl⟩:=b6.1 M;have hj:=ee.1 hj;have h1:=mK p i j;have h2:=p.dl;have O:=p.al;omega
 ·simp only[e0];rw[mS (aW _) (aW _)];rfl
 ·simp only[e0];rw[mS (an _) (an _)]
 ·intro i G j hj;simp only[e0];unfold nQ;refine⟨fun h=> ?_,fun h=> ?_,fun h h' A=> ?_⟩
  ·rw[mS (by omega) (by omega),mS (by omega) (by omega)];cases j with
   |zero=>rw[oV];omega
   |succ j=>rw[oU];split<;>omega
  ·rw[mS (by omega) (by omega),mS (by omega) (by omega)];cases i with
   |zero=>have:pt drop add cost 0 (j+1)=pt drop add cost 0 j+add.getD j 0:=rfl;omega
   |succ i=>rw[oU];split<;>omega
  ·rw[mS (by omega) (by omega),mS (by omega) (by omega),oU];unfold cg at A⊢;rw[if_pos A];omega
theorem y2:∀(A:List (Int×Int)) (E:Int×Int) (s r:Int),iu drop add cost E A s=some r→r=s+(A.map fun p=>cg cost p.1.toNat p.2.toNat-drop.getD p.1.toNat 0-add.getD p.2.toNat 0).sum
 |[],E,s,r,h=>by simp only[iu,aC]at h;subst h;simp
 |q::A,E,s,r,h=>by
  rw[iu]at h;split at h;·have:=y2 A q _ r h;rw[List.map_cons,List.sum_cons];omega
  ·cases h
end
section
variable {x y:List aB} {k:Int×Int→List (Int×Int)}
theorem uF(budget:Nat):∀(f:Nat) (l:List (Int×Int)) (i:Nat) (r:List (Int×Int)),ez k budget f l i=some r→l.length≤r.length∧i≤r.length+i
 |0,l,i,r,h=>by cases h
 |f+1,l,i,r,h=>by
  rw[ez]at h;split at h
  ·split at h;·have:=(uF budget f _ _ r h).1;rw[cI]at this;omega
   ·cases h
  ·obtain rfl:=aU h;omega
theorem y5(budget b':Nat):∀(f:Nat) (l:List (Int×Int)) (i:Nat) (r:List (Int×Int)),ez k budget f l i=some r→r.length≤b'→i≤l.length→∀A,r.length<A+i→ez k b' A l i=some r
 |0,l,i,r,h,_,_,_,_=>by cases h
 |f+1,l,i,r,h,G,O,A,M=>by
  have Y:=(uF budget (f+1) l i r h).1;rw[ez]at h;split at h
  ·rename_i E;split at h;·have h2:=(uF budget f _ _ r h).1;rw[pM E (by omega) (by omega)];exact y5 budget b' f _ _ r h G (by rw[cI];omega) (A-1) (by omega)
   ·cases h
  ·rename_i E;obtain rfl:=aU h;exact pN (by omega) (by omega)
theorem Ga(E:WF x)(hy:WF y){budget:Int}{l:List (Int×Int)}(h:fB x y budget=some l):fB x y l.length=some l:=by
 have A:=(rq E hy h).1;have G:0<l.length:=by rw[A.eq];simp
 unfold fB at h⊢;split at h;·cases h
 ·rw[if_neg (by omega)];exact y5 _ _ _ _ _ _ h (by simp) (by simp) _ (by simp)
theorem y7(K:KF x y k)(A:WF x)(hy:WF y):∃r,ez k (x.length*y.length) (x.length*y.length+1) [(0,0)] 0=some r∧Good x y k r r.length:=by
 have G:0<x.length*y.length:=Nat.mul_pos A.pos hy.pos;rcases q6 K (x.length*y.length) (x.length*y.length+1) [(0,0)] 0 (oS A.pos hy.pos) (by simp;omega) (by omega)with⟨r,h1,h2,_⟩|⟨_,r,j,h2,E⟩;·exact⟨r,h1,h2⟩
 ·have:=h2.len;omega
theorem y8:∀(l:List (Int×Int)) (i:Nat) (q:Int×Int),l.Nodup→q∈l.drop i→bG (aQ x y (l.drop i)) q=bG (aQ x y l) q
 |l,0,q,_,_=>by rw[fm]
 |[],i+1,q,_,h=>by simp at h
 |a::l,i+1,q,A,h=>by rw[List.nodup_cons]at A;rw[gj]at h⊢;rw[y8 l i q A.2 h,aQ,ra,if_neg];intro e;exact A.1 (by have E:q=a:=e;rw[←E];exact List.mem_of_mem_drop h)
theorem later{l:List (Int×Int)}(M:l.Pairwise fV){i:Nat}(E:i<l.length){q:Int×Int}(G:q∈l)(A:fV l[i] q):q∈l.drop (i+1):=by
 obtain⟨j,hj,rfl⟩:=ij.1 G
 have O:i<j:=by
  rcases Nat.lt_trichotomy i j with h|h|h;·exact h
  ·subst h;exact absurd A (xT _)
  ·exact absurd A (xS (List.pairwise_iff_getElem.1 M j i hj E h))
 rw[List.mem_drop_iff_getElem];exact⟨j-(i+1),by omega,by congr 1;omega⟩
structure lj(x y:List aB)(l:List (Int×Int)):Prop where
 y9:l.Pairwise fV
 nodup:l.Nodup
 inr:∀p∈l,bZ x y p
 root:(0,0)∈l
 za:∀p∈l,∀q∈kp x y p,q∈l
theorem Gb(G:WF x)(hy:WF y){budget:Int}{l:List (Int×Int)}(h:fB x y budget=some l):lj x y (cq l):=by have g:=(rq G hy h).1;have c:=pY g;exact⟨uc g.nodup,xR g.nodup,fun p A=>g.inr p (kh.1 A),kh.2 c.1,fun p A q E=>kh.2 (c.2 p (kh.1 A) q E)⟩
theorem zb(ac:WF x){l:List (Int×Int)}(C:lj x y l){i:Nat}(E:i<l.length):eA x y l[i] (bG (aQ x y (l.drop (i+1))))=eA x y l[i] (bG (aQ x y l)):=by
 unfold eA;apply jF;intro c A;apply jF;intro d O;have G:l[i]∈l:=aK E;have M:=C.inr _ G;split
 ·rename_i Y;have ab:(c,d)∈kp x y l[i]:=by unfold kp fA;exact List.mem_flatMap.2 ⟨c,A,b6.2 ⟨d,List.mem_filter.2 ⟨O,by simpa using Y⟩,rfl⟩⟩
  have:=(eK ac M.1 M.2.1 A).2.2.1;exact y8 l (i+1) (c,d) C.nodup (later C.y9 E (C.za _ G _ ab) (.inl this))
 ·rfl
theorem zc(G:WF x){l:List (Int×Int)}(C:lj x y l){p:Int×Int}(E:p∈l):iv (aQ x y l) p=hT x y p (bG (aQ x y l)):=by obtain⟨i,A,rfl⟩:=ij.1 E;rw[←ri C.nodup i A,tW x y l i A];unfold hT ju;rw[zb G C A]
theorem Gc(E:WF x){l:List (Int×Int)}(C:lj x y l){p:Int×Int}(A:p∈l):bG (aQ x y l) p=cZ (nd x p.1).text (nd y p.2).text+(ju x y p (bG (aQ x y l))).cost:=by rw[Eh,zc E C A];rfl
theorem uG(E:WF x)(hy:WF y)(nx:ct x=true)(A:ct y=true){l:List (Int×Int)}(C:lj x y l){p:Int×Int}(G:bZ x y p):lS (bL x p.1) (bL y p.2) (eA x y p (bG (aQ x y l))):=by
 have M:x.length≤262144:=by unfold ct at nx;simp only[cy,decide_eq_true_eq]at nx;exact nx.1
 have O:y.length≤262144:=by unfold ct at A;simp only[cy,decide_eq_true_eq]at A;exact A.1
 exact tP E hy nx A G _ (tO E hy M O (tQ E hy nx A l C.inr))
theorem Gd(E:WF x)(hy:WF y)(nx:ct x=true)(Y:ct y=true){l:List (Int×Int)}(C:lj x y l):∀e∈aQ x y l,pT x y (bG (aQ x y l)) e:=by
 intro e M;obtain⟨i,A,rfl⟩:=ij.1 M;rw[pV]at A;rw[tW x y l i A];have O:l[i]∈l:=aK A;have G:hT x y l[i] (bG (aQ x y (l.drop (i+1))))=hT x y l[i] (bG (aQ x y l)):=by unfold hT ju;rw[zb E C A]
 rw[G];exact⟨y1 (uG E hy nx Y C (C.inr _ O)),rfl⟩
theorem zd(E:PO x)(M:PO y)(nx:ct x=true)(ad:ct y=true){l:List (Int×Int)}(C:lj x y l):∀(f:Nat) (p:Int×Int),p∈l→(x.length:Int)-p.1≤f→bG (aQ x y l) p=(nd x p.1).size+(nd y p.2).size+eO x y (c8 (ff x y (aQ x y l)) f p)
 |0,p,G,h=>by have:=(C.inr p G).2.1;omega
 |f+1,p,G,h=>by
  have A:=C.inr p G;have K:=rp E.wf M.wf l;have aL:=y1 (uG E.wf M.wf nx ad C A);have O:=aL.1;unfold tR at O;rw[if_pos (tL.2 (uG E.wf M.wf nx ad C A))]at O;have aJ:=y2 _ _ _ _ O;have ak:(ju x y p (bG (aQ x y l))).cost=(bL x p.1).sum+(bL y p.2).sum+((ju x y p (bG (aQ x y l))).aR.map fun q=>cg (eA x y p (bG (aQ x y l))) q.1.toNat q.2.toNat-(bL x p.1).getD q.1.toNat 0-(bL y p.2).getD q.2.toNat 0).sum:=aJ;have ao:ff x y (aQ x y l) p=(ju x y p (bG (aQ x y l))).aR.map (gC x y p):=by unfold ff;rw[zc E.wf C G];rfl
  have e:((ju x y p (bG (aQ x y l))).aR.map fun q=>cg (eA x y p (bG (aQ x y l))) q.1.toNat q.2.toNat-(bL x p.1).getD q.1.toNat 0-(bL y p.2).getD q.2.toNat 0)=
    (ff x y (aQ x y l) p).map fun q=>eO x y (c8 (ff x y (aQ x y l)) f q):=by
   rw[ao,List.map_map];apply jF;intro q aG;obtain⟨q1,aN,aO,aP,aS,aT,aj⟩:=pW aG;have Y:q.1.toNat<(nd x p.1).kids.length:=by omega
   have ab:q.2.toNat<(nd y p.2).kids.length:=by omega
   have am:gC x y p q=((nd x p.1).kids[q.1.toNat],(nd y p.2).kids[q.2.toNat]):=by unfold gC;rw[dj _ _ _ Y,dj _ _ _ ab]
   have aB:gC x y p q∈ff x y (aQ x y l) p:=by rw[ao];exact b6.2 ⟨q,aG,rfl⟩
   have ax:gC x y p q∈l:=C.za p G _ (rm l aB);have aM:=(K.inr p A _ aB).2.1;have ac:=zd E M nx ad C f (gC x y p q) ax (by omega);rw[xM Y ab];rw[am]at aj ac ax;simp only at aj ac;rw[if_pos aj,ac];unfold bL;rw[dj _ _ _ (by simpa using Y),dj _ _ _ (by simpa using ab),eU,eU,Function.comp_apply,am];omega
  rw[e]at ak;rw[c8,qc,yY,Gc E.wf C G,ak,mL E.wf A.1 A.2.1,mL M.wf A.2.2.1 A.2.2.2];unfold bL;omega
end
end Go.Proofs.YtdplggpbgommnaaGreatDoor
