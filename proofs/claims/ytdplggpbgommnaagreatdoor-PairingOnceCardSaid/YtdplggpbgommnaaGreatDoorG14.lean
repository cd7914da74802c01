/- pairing.node. -/
import Derived.Test.YtdplggpbgommnaaGreatDoorG12
open Bool renaming and_eq_true->cy
open Go renaming wpStill_nil->ig,wp_region_still_tail->ic
open Go.IntKind renaming i64->ae
open Go.Lib renaming hid->aa
open Go.Value renaming bool->ay,int->af,slice->ag
open Go.World renaming drew->q1
open Int renaming toNat_natCast->dy
open List renaming drop_succ_cons->gj,drop_zero->BU,flatMap_cons->fH,getD_eq_getElem?_getD->bb,getElem?_eq_getElem->aE,getElem?_map->jB,getElem_map->eU,getElem_mem->aK,getElem_range->v7,getLastD_cons->KD,length_append->cI,map_congr_left->jF,map_set->hL,mem_iff_getElem->ij,mem_map->b6,mem_range->ee,range->aw,take_length->cP,take_succ_cons->fl,take_zero->ie
open Nat renaming add_sub_cancel->K9,le_refl->kI,zero_le->aW
open Option renaming map_some->fa
open Option.some renaming injEq->aC,inj->aU
set_option maxRecDepth 100000
set_option maxHeartbeats 4000000
namespace Go.Proofs.YtdplggpbgommnaaGreatDoor
open Go.RowKit
theorem o0{h:Hp}{a b:Nat}(ha:h a≠none)(G:h b=none):a≠b:=fun e=>ha (by rw[e];exact G)
theorem cu{h:Hp}{w:World}(J:ao h w){b:Nat}{c:Array Value}(G:h b=some c)(i:Nat):w.cell? ⟨b,i,none⟩=c[i]? :=pH (J b c G) i
theorem FC(l:List (Int×Int))(n:Nat)(p:Int×Int)(_hn:n<l.length):(l.set n p).flatMap bV=((l.flatMap bV).set (n*2) (af ae p.1)).set (n*2+1) (af ae p.2):=by
 induction l generalizing n with
 |nil=>simp at _hn
 |cons a l G=>
  cases n with
  |zero=>simp[bV]
  |succ n=>have:=G n (by simpa using _hn);rw[List.set_cons_succ,fH,this,fH,show(n+1)*2=n*2+2 by omega];simp[bV]
section
variable {h:Hp} {w w1:World} {B xb so sn:Nat} {budget:Int} {V:eL->Value} {s:bp}
theorem bH.tu{S:Nat->Prop}(q:bH h w B xb so sn budget V s)(t:Tu S w w1)(hS:∀b,S b->h b=none/\b≠xb/\∀k,(V k).ownBlock≠some b):bH h w1 B xb so sn budget V s:=by obtain⟨J,x,o⟩:=q.box;exact⟨t.I q.I fun b G=>(hS b G).1,q.rows.tu t fun k b G hs=>(hS b hs).2.2 k G,q.aI,q.new,⟨J,x.tu t (fun e=>(hS xb e).2.1 rfl),o⟩,q.xn,q.xr⟩
theorem bH.below(q:bH h w B xb so sn budget V s)(b:Below w.heap.size w w1):bH h w1 B xb so sn budget V s:=q.tu ((Tu.refl (fun _=>False) w).below b) fun _ e=>e.elim
theorem bH.p6{s':bp}(q:bH h w B xb so sn budget V s)(k:eL)(t:Tu (fun b=>(V k).ownBlock=some b) w w1)(o:Ow w1 h B (dD k) (dE k) (V k) (cf s' k) (ch s' k))(Y:∀q,q≠k->cf s' q=cf s q/\ch s' q=ch s q)(h1:s'.ot.length=s.ot.length)(h2:s'.nt.length=s.nt.length)(G:s'.rs.length=s.rs.length)(J:s'.cost=s.cost)(O:s'.a7=s.a7):bH h w1 B xb so sn budget V s':=by
 obtain⟨aj,x,or⟩:=q.box;refine⟨t.I q.I fun b ab=>(q.rows.own k).free b ab,q.rows.p6 k t o Y,?_,?_,⟨aj,?_,?_⟩,q.xn,q.xr⟩;·rw[h1];exact q.aI
 ·rw[h2];exact q.new
 ·rw[J,O];exact x.tu t (q.xr k)
 ·rw[G];exact or
theorem bH.FD(q:bH h w B xb so sn budget V s){m n:Nat}(hm:m<s.rs.length)(hn:n<(s.rs.getD m []).length){g c:Nat}(e:V (.rs m)=ag (some ⟨g,0,none⟩) (s.rs.getD m []).length c)(a b:Int):bH h ((w.setCell ⟨g,n*2,none⟩ (af ae a)).setCell ⟨g,n*2+1,none⟩ (af ae b)) B xb so sn budget V {s with rs:=eM s.rs m n (a,b)}:=by
 have o:=q.rows.own (.rs m);have Y:=o;simp only[dD,dE,cf,ch]at o;rw[e]at o;have G:=(o.set (n*2) (af ae a) (by omega)).set (n*2+1) (af ae b) (by omega);rw[<-FC _ _ (a,b) hn]at G;refine q.p6 (.rs m) (((Tu.refl _ _).set (p:=⟨g,n*2,none⟩) (.inl (by rw[e];rfl)) _).set (p:=⟨g,n*2+1,none⟩) (.inl (by rw[e];rfl)) _) ?_ ?_ rfl rfl (by simp[eM]) rfl rfl;·simp only[dD,dE,cf,ch,lW];rw[e,p7 _ _ _ _ hm];exact G
 ·intro k O;cases k with
  |rs i=>have J:i≠m:=fun e=>O (by rw[e]);simp only[cf,ch,p8 _ _ _ _ _ J,and_self]
  |_=>exact⟨rfl,rfl⟩
theorem bH.FE(q:bH h w B xb so sn budget V s){m n:Nat}(hm:m<s.nt.length)(hn:n<(s.nt.getD m []).length){g c:Nat}(e:V (.nt m)=ag (some ⟨g,0,none⟩) (s.nt.getD m []).length c)(x:Bool):bH h (w.setCell ⟨g,n,none⟩ (ay x)) B xb so sn budget V {s with nt:=eM s.nt m n x}:=by
 have o:=q.rows.own (.nt m);simp only[dD,dE,cf,ch]at o;rw[e]at o;have G:=o.set n (ay x) (by omega);refine q.p6 (.nt m) ((Tu.refl _ _).set (p:=⟨g,n,none⟩) (.inl (by rw[e];rfl)) _) ?_ ?_ rfl (by simp[eM]) rfl rfl rfl;·simp only[dD,dE,cf,ch,lW];rw[e,p7 _ _ _ _ hm];unfold dZ at G⊢;rw[hL];exact G
 ·intro k O;cases k with
  |nt i=>have J:i≠m:=fun e=>O (by rw[e]);simp only[cf,ch,p8 _ _ _ _ _ J,and_self]
  |_=>exact⟨rfl,rfl⟩
theorem bH.FF(q:bH h w B xb so sn budget V s){m n:Nat}(hm:m<s.ot.length)(hn:n<(s.ot.getD m []).length){g c:Nat}(e:V (.ot m)=ag (some ⟨g,0,none⟩) (s.ot.getD m []).length c)(x:Bool):bH h (w.setCell ⟨g,n,none⟩ (ay x)) B xb so sn budget V {s with ot:=eM s.ot m n x}:=by
 have o:=q.rows.own (.ot m);simp only[dD,dE,cf,ch]at o;rw[e]at o;have G:=o.set n (ay x) (by omega);refine q.p6 (.ot m) ((Tu.refl _ _).set (p:=⟨g,n,none⟩) (.inl (by rw[e];rfl)) _) ?_ ?_ (by simp[eM]) rfl rfl rfl rfl;·simp only[dD,dE,cf,ch,lW];rw[e,p7 _ _ _ _ hm];unfold dZ at G⊢;rw[hL];exact G
 ·intro k O;cases k with
  |ot i=>have J:i≠m:=fun e=>O (by rw[e]);simp only[cf,ch,p8 _ _ _ _ _ J,and_self]
  |_=>exact⟨rfl,rfl⟩
end
theorem uB{h:Hp}{w:World}{B xb so sn:Nat}{budget:Int}{V:eL->Value}{s:bp}(q:bH h w B xb so sn budget V s)(m n t k:Nat)(hm:m<s.rs.length)(hn:n<(s.rs.getD m []).length)(aO:m<s.nt.length)(aP:n<(s.nt.getD m []).length)(aQ:t<s.ot.length)(aN:k<(s.ot.getD t []).length):Calls Tryz.prog 56 #[.pointer (some ⟨xb,0,none⟩),af ae m,af ae n,.agg #[af ae t,af ae k]] w fun e w'=>e= .returned (.tuple #[])/\bH h w' B xb so sn budget V (du s m n t k)/\Tu (fun b=>(V (.rs m)).ownBlock=some b\/(V (.nt m)).ownBlock=some b\/(V (.ot t)).ownBlock=some b) w w':=by
 obtain⟨tv,cv,cc,kv,Y,a9⟩:=q.aI;obtain⟨cG,cw,cd,dR,aG,on⟩:=q.new;obtain⟨cC,ak,or⟩:=q.box;obtain⟨b0,bC,rfl,cq,a1⟩:=a9.at q.I;obtain⟨an,bB,rfl,co,fn⟩:=on.at q.I;obtain⟨ar,cr,rfl,ct,a2⟩:=or.at q.I;obtain⟨aJ,bN,rfl,di,aY,a5⟩:=a1 t aQ;obtain⟨bn,bL,rfl,dh,aX,bE⟩:=fn m aO;obtain⟨b9,cz,rfl,dk,aZ,ce⟩:=a2 m hm;have aj:=q.rows.own (.rs m);have rn:=q.rows.own (.nt m);have ab:=q.rows.own (.ot t);have ao:=q.rows.apart (.rs m) (.nt m) (by simp);have ax:=q.rows.apart (.rs m) (.ot t) (by simp);have am:=q.rows.apart (.nt m) (.ot t) (by simp);obtain⟨bX,c1,G⟩:=aj.shape;obtain⟨bY,c2,J⟩:=rn.shape;obtain⟨bZ,c3,O⟩:=ab.shape;rw[G]at aj ao ax aZ;rw[J]at rn ao am aX;rw[O]at ab ax am aY;simp only[cf,dE,dD]at aj rn ab aZ aX aY;obtain⟨gr,rfl,-,dp,aB,aL,aM⟩:=aj.cell (by omega);obtain⟨gn,rfl,-,dm,a8,aT,a3⟩:=rn.cell (by omega);obtain⟨go,rfl,-,dn,cg,aV,a4⟩:=ab.cell (by omega);have bO:=ak.cl 0;have bR:=ak.cl 1;have bS:=ak.cl 3;simp only[List.getElem?_toArray,List.getElem?_cons_zero,List.getElem?_cons_succ]at bO bR bS;have dv:=ak.lt;have cE:w.cell? ⟨so,5,none⟩=some (ag (some ⟨aJ,bN,none⟩) s.ot.length bC):=cu q.I Y 5;have cF:w.cell? ⟨sn,5,none⟩=some (ag (some ⟨bn,bL,none⟩) s.nt.length bB):=cu q.I aG 5;have dt:=cD (q.I _ _ Y);have dr:=cD (q.I _ _ aG);have bg:∃v,w.cell? ⟨gr,n*2,none⟩=some v:=⟨_,aL _ _ (by simp only[ch];exact(mE _ n hn).1)⟩
 have bm:∃v,w.cell? ⟨gr,n*2+1,none⟩=some v:=⟨_,aL _ _ (by simp only[ch];exact(mE _ n hn).2)⟩
 obtain⟨cA,bg⟩:=bg;obtain⟨cB,bm⟩:=bm;have c6:=aM (n*2);have c8:=aM (n*2+1);have bq:∃v,w.cell? ⟨gn,n,none⟩=some v:=⟨ay ((s.nt.getD m [])[n]),aT n _ (by simp only[ch,dZ,jB,aE aP,fa])⟩
 have bv:∃v,w.cell? ⟨go,k,none⟩=some v:=⟨ay ((s.ot.getD t [])[k]),aV k _ (by simp only[ch,dZ,jB,aE aN,fa])⟩
 obtain⟨ba,bq⟩:=bq;obtain⟨aS,bv⟩:=bv;have c9:=a3 n;have dg:=a4 k;have bG:gr≠gn:=fun e=>ao gr rfl (by rw[e];rfl);have bI:gr≠go:=fun e=>ax gr rfl (by rw[e];rfl);have bJ:gn≠go:=fun e=>am gn rfl (by rw[e];rfl);have cm:xb≠gr:=fun e=>q.xr (.rs m) (by rw[G,e];rfl);have cn:xb≠gn:=fun e=>q.xr (.nt m) (by rw[J,e];rfl);have k1:so≠gr:=o0 (by rw[Y];simp) aB;have k2:so≠gn:=o0 (by rw[Y];simp) a8;have k3:sn≠gr:=o0 (by rw[aG];simp) aB;have k4:aJ≠gr:=o0 a5 aB;have k5:aJ≠gn:=o0 a5 a8;have k6:bn≠gr:=o0 bE aB;have ci:gn≠gr:=fun e=>bG e.symm;have cj:go≠gr:=fun e=>bI e.symm;have cl:go≠gn:=fun e=>bJ e.symm;have cK:(0:Int)<=(m:Int):=by omega
 have cN:(m:Int)<(s.rs.length:Int):=by omega
 have cQ:(m:Int)<(s.nt.length:Int):=by omega
 have cS:(0:Int)<=(t:Int):=by omega
 have cU:(t:Int)<(s.ot.length:Int):=by omega
 have cV:(0:Int)<=(n:Int):=by omega
 have cX:(n:Int)<((s.rs.getD m []).length:Int):=by omega
 have cY:(n:Int)<((s.nt.getD m []).length:Int):=by omega
 have cZ:(0:Int)<=(k:Int):=by omega
 have cM:(k:Int)<((s.ot.getD t []).length:Int):=by omega
 simp only[cf]at G J O
 have bd:Tu (fun b=>(V (.rs m)).ownBlock=some b\/(V (.nt m)).ownBlock=some b\/(V (.ot t)).ownBlock=some b) w (((((w.setCell ⟨gr,n*2,none⟩ (af ae t)).setCell ⟨gr,n*2+1,none⟩ (af ae k)).setCell ⟨gn,n,none⟩ (ay true)).setCell ⟨go,k,none⟩ (ay true)).alloc (.cells #[af ae t,af ae k] 43)).drew.drew:=
  ((((((((Tu.refl _ _).set (p:=⟨gr,n*2,none⟩) (.inl (.inl (by rw[G];rfl))) _).set (p:=⟨gr,n*2+1,none⟩) (.inl (.inl (by rw[G];rfl))) _).set (p:=⟨gn,n,none⟩) (.inl (.inr (.inl (by rw[J];rfl)))) _).set (p:=⟨go,k,none⟩) (.inl (.inr (.inr (by rw[O];rfl)))) _).alloc _).drew).drew)
 have aS:bH h (((((w.setCell ⟨gr,n*2,none⟩ (af ae t)).setCell ⟨gr,n*2+1,none⟩ (af ae k)).setCell ⟨gn,n,none⟩ (ay true)).setCell ⟨go,k,none⟩ (ay true)).alloc (.cells #[af ae t,af ae k] 43)).drew.drew B xb so sn budget V (du s m n t k):=by have ba:=((q.FD hm hn G (t:Int) (k:Int)).FE (s:={s with rs:=eM s.rs m n ((t:Int),(k:Int))}) aO aP J true).FF (s:={s with rs:=eM s.rs m n ((t:Int),(k:Int)),nt:=eM s.nt m n true}) aQ aN O true;exact ba.below ((((Below.refl _ _).alloc (kI _) _).drew).drew)
 have bz:=aa aS;have bA:=aa bd;clear aS bd q a9 on or a1 fn a2 ak aj rn ab ao ax am aL aT aV aM a3 a4 G J O Y aG;clear hn aP aN hm aO aQ;generalize(s.rs.getD m []).length=bT at*;generalize(s.nt.getD m []).length=L2 at*;generalize(s.ot.getD t []).length=bV at*;go_in;go_wp2_with fail;refine ic 11 (by kernel_rfl) (by kernel_rfl) ?_;simp only[fl,ie,gj,BU];change wpStill _ _ (q1 _) (fun a'=>wpList _ _ _ _ a' (q1 _)) _ _;repeat still_step
 refine ig ?_;go_wp2_with fail;refine ic 14 (by kernel_rfl) (by kernel_rfl) ?_;simp only[fl,ie,gj,BU];change wpStill _ _ (q1 _) (fun a'=>wpList _ _ _ _ a' (q1 _)) _ _;repeat still_step
 refine ig ?_;go_wp2_with fail;refine bodyPost_end (results_none rfl _ _ _) rfl ?_;exact⟨rfl,bz.out,bA.out⟩
section
variable {drop add:List Int} {cost:List (List Int)}
theorem rJ(l:List Int)(k:Nat):(l.take (k+1)).sum=(l.take k).sum+l.getD k 0:=by
 rw[List.take_add_one,List.sum_append];cases h:l[k]?with
 |none=>simp[bb,h]
 |some v=>simp[bb,h]
theorem yZ:∀(ps:List (Int×Int)) (last:Int×Int) (s r:Int),iu drop add cost last ps s=some r->∀p,pS drop add cost (ps.getLastD last) p->iu drop add cost last (ps++[p]) s=some (r+(cg cost p.1.toNat p.2.toNat-drop.getD p.1.toNat 0-add.getD p.2.toNat 0))
 |[],last,s,r,h,p,G=>by simp only[iu,aC]at h;subst h;have J:pS drop add cost last p:=G;rw[List.nil_append,iu,if_pos J,iu]
 |q::ps,last,s,r,h,p,G=>by
  rw[iu]at h;split at h;·rename_i O;rw[List.cons_append,iu,if_pos O];exact yZ ps q _ r h p (by rw[KD]at G;exact G)
  ·cases h
theorem y0{α:Type}:∀(l:List α) (d:α),l.getLastD d=d\/l.getLastD d∈l
 |[],d=> .inl rfl
 |a::l,d=>by
  rw[KD];rcases y0 l a with h|h;·rw[h];exact .inr (by simp)
  ·exact .inr (List.mem_cons_of_mem _ h)
theorem rK:∀(f i j:Nat),i+j<=f->i<=drop.length->j<=add.length->∀s:Int,iu drop add cost (-1,-1) (bO drop add cost f i j).reverse s=some (s+pt drop add cost i j-(drop.take i).sum-(add.take j).sum)
 |0,i,j,h,_,_,s=>by
  obtain rfl:i=0:=by omega
  obtain rfl:j=0:=by omega
  simp[bO,iu,pt,lR]
 |f+1,i,j,h,aj,hj,s=>by
  rw[bO];split
  ·rename_i hz;split
   ·rename_i hd;obtain⟨i,rfl⟩:∃k,i=k+1:=⟨i-1,by omega⟩
    obtain⟨j,rfl⟩:∃k,j=k+1:=⟨j-1,by omega⟩
    simp only[K9]at hd⊢;have ab:=rK f i j (by omega) (by omega) (by omega) s;rw[List.reverse_cons,yZ _ _ _ _ ab ((i:Int),(j:Int)) ?_];·simp only[dy,aC];rw[rJ,rJ,hd.2.2.2];unfold cg;omega
    ·have Y:=y0 (bO drop add cost f i j).reverse (-1,-1)
     have J:((bO drop add cost f i j).reverse.getLastD (-1,-1)).1<(i:Int)/\((bO drop add cost f i j).reverse.getLastD (-1,-1)).2<(j:Int):=by
      rcases Y with e|hm;·rw[e];simp only;omega
      ·have:=nO drop add cost f i j _ (List.mem_reverse.1 hm);omega
     exact⟨J.1,J.2,by simp only;omega,by simp only;omega,by simp only[dy];exact hd.2.2.1⟩
   ·rename_i hd;split
    ·rename_i G;obtain⟨i,rfl⟩:∃k,i=k+1:=⟨i-1,by omega⟩
     simp only[K9]at G⊢;rw[rK f i j (by omega) (by omega) (by omega) s,rJ,G.2,aC];omega
    ·rename_i G
     have ak:0<j:=by
      rcases Nat.eq_zero_or_pos j with rfl|O
      ·exfalso;apply G;obtain⟨i,rfl⟩:∃k,i=k+1:=⟨i-1,by omega⟩
       exact⟨by omega,oV drop add cost i⟩
      ·exact O
     obtain⟨j,rfl⟩:∃k,j=k+1:=⟨j-1,by omega⟩
     simp only[K9]at hd G⊢
     have hp:pt drop add cost i (j+1)=pt drop add cost i j+add.getD j 0:=by
      cases i with
      |zero=>rfl
      |succ i=>
       simp only[K9]at hd G;have hs:=oU drop add cost i j;split at hs;·rename_i hc;have h1:¬pt drop add cost (i+1) (j+1)=pt drop add cost i j+(cost.getD i []).getD j 0:=fun e=>hd ⟨by omega,by omega,hc,e⟩;have h2:¬pt drop add cost (i+1) (j+1)=pt drop add cost i (j+1)+drop.getD i 0:=fun e=>G ⟨by omega,e⟩;omega
       ·have h2:¬pt drop add cost (i+1) (j+1)=pt drop add cost i (j+1)+drop.getD i 0:=fun e=>G ⟨by omega,e⟩;omega
     rw[rK f i j (by omega) (by omega) (by omega) s,rJ,hp,aC];omega
  ·rename_i hz;obtain rfl:i=0:=by omega
   obtain rfl:j=0:=by omega
   simp[iu,pt,lR]
theorem mS{i j:Nat}(G:i<=drop.length)(hj:j<=add.length):cg (iN drop add cost) i j=pt drop add cost i j:=by unfold cg iN;rw[vL (List.map (fun i=>(aw (add.length+1)).map (pt drop add cost i)) (aw (drop.length+1))) i [] (by simp;omega),eU,v7,vL _ _ _ (by simp;omega),eU,v7]
theorem y1(p:lS drop add cost):nR drop add cost (e0 drop add cost):=by
 refine⟨?_,by simp[e0,iN],?_,?_,?_,?_⟩;·unfold tR e0;rw[if_pos (tL.2 p)];simp only;rw[rK _ _ _ (kI _) (kI _) (kI _),cP,cP,aC];omega
 ·intro r hr;simp only[e0,iN,b6,ee]at hr;obtain⟨i,G,rfl⟩:=hr;refine⟨by simp,?_⟩;rw[pQ];intro v hv;obtain⟨j,hj,rfl⟩:=b6.1 hv;have hj:=ee.1 hj;have h1:=mK p i j;have h2:=p.dl;have J:=p.al;omega
 ·simp only[e0];rw[mS (aW _) (aW _)];rfl
 ·simp only[e0];rw[mS (kI _) (kI _)]
 ·intro i G j hj;simp only[e0];unfold nQ;refine⟨fun h=> ?_,fun h=> ?_,fun h h' hc=> ?_⟩
  ·rw[mS (by omega) (by omega),mS (by omega) (by omega)];cases j with
   |zero=>rw[oV];omega
   |succ j=>rw[oU];split<;>omega
  ·rw[mS (by omega) (by omega),mS (by omega) (by omega)];cases i with
   |zero=>have:pt drop add cost 0 (j+1)=pt drop add cost 0 j+add.getD j 0:=rfl;omega
   |succ i=>rw[oU];split<;>omega
  ·rw[mS (by omega) (by omega),mS (by omega) (by omega),oU];unfold cg at hc⊢;rw[if_pos hc];omega
theorem y2:∀(ps:List (Int×Int)) (last:Int×Int) (s r:Int),iu drop add cost last ps s=some r->r=s+(ps.map fun p=>cg cost p.1.toNat p.2.toNat-drop.getD p.1.toNat 0-add.getD p.2.toNat 0).sum
 |[],last,s,r,h=>by simp only[iu,aC]at h;subst h;simp
 |q::ps,last,s,r,h=>by
  rw[iu]at h;split at h;·have:=y2 ps q _ r h;rw[List.map_cons,List.sum_cons];omega
  ·cases h
end
section
variable {x y:List aB} {k:Int×Int->List (Int×Int)}
theorem uF(budget:Nat):∀(f:Nat) (l:List (Int×Int)) (i:Nat) (r:List (Int×Int)),ez k budget f l i=some r->l.length<=r.length/\i<=r.length+i
 |0,l,i,r,h=>by cases h
 |f+1,l,i,r,h=>by
  rw[ez]at h;split at h
  ·split at h;·have:=(uF budget f _ _ r h).1;rw[cI]at this;omega
   ·cases h
  ·obtain rfl:=aU h;omega
theorem y5(budget b':Nat):∀(f:Nat) (l:List (Int×Int)) (i:Nat) (r:List (Int×Int)),ez k budget f l i=some r->r.length<=b'->i<=l.length->∀f',r.length<f'+i->ez k b' f' l i=some r
 |0,l,i,r,h,_,_,_,_=>by cases h
 |f+1,l,i,r,h,J,O,f',hf=>by
  have Y:=(uF budget (f+1) l i r h).1;rw[ez]at h;split at h
  ·rename_i G;split at h;·have h2:=(uF budget f _ _ r h).1;rw[pM G (by omega) (by omega)];exact y5 budget b' f _ _ r h J (by rw[cI];omega) (f'-1) (by omega)
   ·cases h
  ·rename_i G;obtain rfl:=aU h;exact pN (by omega) (by omega)
theorem Ga(hx:WF x)(hy:WF y){budget:Int}{l:List (Int×Int)}(h:fB x y budget=some l):fB x y l.length=some l:=by
 have G:=(rq hx hy h).1;have J:0<l.length:=by rw[G.eq];simp
 unfold fB at h⊢;split at h;·cases h
 ·rw[if_neg (by omega)];exact y5 _ _ _ _ _ _ h (by simp) (by simp) _ (by simp)
theorem y7(K:KF x y k)(hx:WF x)(hy:WF y):∃r,ez k (x.length*y.length) (x.length*y.length+1) [(0,0)] 0=some r/\Good x y k r r.length:=by
 have hp:0<x.length*y.length:=Nat.mul_pos hx.pos hy.pos;rcases q6 K (x.length*y.length) (x.length*y.length+1) [(0,0)] 0 (oS hx.pos hy.pos) (by simp;omega) (by omega)with⟨r,h1,h2,_⟩|⟨_,r,j,h2,G⟩;·exact⟨r,h1,h2⟩
 ·have:=h2.len;omega
theorem y8:∀(l:List (Int×Int)) (i:Nat) (q:Int×Int),l.Nodup->q∈l.drop i->bG (aQ x y (l.drop i)) q=bG (aQ x y l) q
 |l,0,q,_,_=>by rw[BU]
 |[],i+1,q,_,h=>by simp at h
 |a::l,i+1,q,hn,h=>by rw[List.nodup_cons]at hn;rw[gj]at h⊢;rw[y8 l i q hn.2 h,aQ,ra,if_neg];intro e;exact hn.1 (by have e':q=a:=e;rw[<-e'];exact List.mem_of_mem_drop h)
theorem later{l:List (Int×Int)}(hs:l.Pairwise fV){i:Nat}(J:i<l.length){q:Int×Int}(O:q∈l)(G:fV l[i] q):q∈l.drop (i+1):=by
 obtain⟨j,hj,rfl⟩:=ij.1 O
 have Y:i<j:=by
  rcases Nat.lt_trichotomy i j with h|h|h;·exact h
  ·subst h;exact absurd G (xT _)
  ·exact absurd G (xS (List.pairwise_iff_getElem.1 hs j i hj J h))
 rw[List.mem_drop_iff_getElem];exact⟨j-(i+1),by omega,by congr 1;omega⟩
structure lj(x y:List aB)(l:List (Int×Int)):Prop where
 y9:l.Pairwise fV
 nodup:l.Nodup
 inr:∀p∈l,bZ x y p
 root:(0,0)∈l
 za:∀p∈l,∀q∈kp x y p,q∈l
theorem Gb(hx:WF x)(hy:WF y){budget:Int}{l:List (Int×Int)}(h:fB x y budget=some l):lj x y (cq l):=by have g:=(rq hx hy h).1;have c:=pY g;exact⟨Ls g.nodup,xR g.nodup,fun p hp=>g.inr p (kh.1 hp),kh.2 c.1,fun p hp q G=>kh.2 (c.2 p (kh.1 hp) q G)⟩
theorem zb(hx:WF x){l:List (Int×Int)}(C:lj x y l){i:Nat}(G:i<l.length):eA x y l[i] (bG (aQ x y (l.drop (i+1))))=eA x y l[i] (bG (aQ x y l)):=by
 unfold eA;apply jF;intro c hc;apply jF;intro d hd;have hm:l[i]∈l:=aK G;have hr:=C.inr _ hm;split
 ·rename_i J;have O:(c,d)∈kp x y l[i]:=by unfold kp fA;exact List.mem_flatMap.2 ⟨c,hc,b6.2 ⟨d,List.mem_filter.2 ⟨hd,by simpa using J⟩,rfl⟩⟩
  have:=(eK hx hr.1 hr.2.1 hc).2.2.1;exact y8 l (i+1) (c,d) C.nodup (later C.y9 G (C.za _ hm _ O) (.inl this))
 ·rfl
theorem zc(hx:WF x){l:List (Int×Int)}(C:lj x y l){p:Int×Int}(hp:p∈l):iv (aQ x y l) p=hT x y p (bG (aQ x y l)):=by obtain⟨i,G,rfl⟩:=ij.1 hp;rw[<-ri C.nodup i G,tW x y l i G];unfold hT ju;rw[zb hx C G]
theorem Gc(hx:WF x){l:List (Int×Int)}(C:lj x y l){p:Int×Int}(hp:p∈l):bG (aQ x y l) p=cZ (nd x p.1).text (nd y p.2).text+(ju x y p (bG (aQ x y l))).cost:=by rw[Eh,zc hx C hp];rfl
theorem uG(hx:WF x)(hy:WF y)(nx:ct x=true)(G:ct y=true){l:List (Int×Int)}(C:lj x y l){p:Int×Int}(hp:bZ x y p):lS (bL x p.1) (bL y p.2) (eA x y p (bG (aQ x y l))):=by
 have J:x.length<=262144:=by unfold ct at nx;simp only[cy,decide_eq_true_eq]at nx;exact nx.1
 have O:y.length<=262144:=by unfold ct at G;simp only[cy,decide_eq_true_eq]at G;exact G.1
 exact tP hx hy nx G hp _ (tO hx hy J O (tQ hx hy nx G l C.inr))
theorem Gd(hx:WF x)(hy:WF y)(nx:ct x=true)(O:ct y=true){l:List (Int×Int)}(C:lj x y l):∀e∈aQ x y l,pT x y (bG (aQ x y l)) e:=by
 intro e he;obtain⟨i,G,rfl⟩:=ij.1 he;rw[pV]at G;rw[tW x y l i G];have hm:l[i]∈l:=aK G;have J:hT x y l[i] (bG (aQ x y (l.drop (i+1))))=hT x y l[i] (bG (aQ x y l)):=by unfold hT ju;rw[zb hx C G]
 rw[J];exact⟨y1 (uG hx hy nx O C (C.inr _ hm)),rfl⟩
theorem zd(G:PO x)(J:PO y)(nx:ct x=true)(aj:ct y=true){l:List (Int×Int)}(C:lj x y l):∀(f:Nat) (p:Int×Int),p∈l->(x.length:Int)-p.1<=f->bG (aQ x y l) p=(nd x p.1).size+(nd y p.2).size+eO x y (c8 (ff x y (aQ x y l)) f p)
 |0,p,hp,h=>by have:=(C.inr p hp).2.1;omega
 |f+1,p,hp,h=>by
  have hr:=C.inr p hp;have K:=rp G.wf J.wf l;have hv:=y1 (uG G.wf J.wf nx aj C hr);have hs:=hv.1;unfold tR at hs;rw[if_pos (tL.2 (uG G.wf J.wf nx aj C hr))]at hs;have aJ:=y2 _ _ _ _ hs;have am:(ju x y p (bG (aQ x y l))).cost=(bL x p.1).sum+(bL y p.2).sum+((ju x y p (bG (aQ x y l))).aR.map fun q=>cg (eA x y p (bG (aQ x y l))) q.1.toNat q.2.toNat-(bL x p.1).getD q.1.toNat 0-(bL y p.2).getD q.2.toNat 0).sum:=aJ;have ax:ff x y (aQ x y l) p=(ju x y p (bG (aQ x y l))).aR.map (gC x y p):=by unfold ff;rw[zc G.wf C hp];rfl
  have e:((ju x y p (bG (aQ x y l))).aR.map fun q=>cg (eA x y p (bG (aQ x y l))) q.1.toNat q.2.toNat-(bL x p.1).getD q.1.toNat 0-(bL y p.2).getD q.2.toNat 0)=
    (ff x y (aQ x y l) p).map fun q=>eO x y (c8 (ff x y (aQ x y l)) f q):=by
   rw[ax,List.map_map];apply jF;intro q aG;obtain⟨aM,aN,aO,aP,aS,aT,ak⟩:=pW aG;have O:q.1.toNat<(nd x p.1).kids.length:=by omega
   have Y:q.2.toNat<(nd y p.2).kids.length:=by omega
   have ao:gC x y p q=((nd x p.1).kids[q.1.toNat],(nd y p.2).kids[q.2.toNat]):=by unfold gC;rw[vL _ _ _ O,vL _ _ _ Y]
   have hm:gC x y p q∈ff x y (aQ x y l) p:=by rw[ax];exact b6.2 ⟨q,aG,rfl⟩
   have aB:gC x y p q∈l:=C.za p hp _ (rm l hm);have aL:=(K.inr p hr _ hm).2.1;have ab:=zd G J nx aj C f (gC x y p q) aB (by omega);rw[xM O Y];rw[ao]at ak ab aB;simp only at ak ab;rw[if_pos ak,ab];unfold bL;rw[vL _ _ _ (by simpa using O),vL _ _ _ (by simpa using Y),eU,eU,Function.comp_apply,ao];omega
  rw[e]at am;rw[c8,qc,yY,Gc G.wf C hp,am,mL G.wf hr.1 hr.2.1,mL J.wf hr.2.2.1 hr.2.2.2];unfold bL;omega
end
end Go.Proofs.YtdplggpbgommnaaGreatDoor
