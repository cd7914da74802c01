/- Functions that read lists of integers and pairs. -/
import Derived.Test.YtdplggpbgommnaaGreatDoorG00
import Derived.BigQuiet
import Derived.Deep.RegionHeld3
import Derived.StillTailTactics
import Derived.Deep.DeepCutAuto
open Bool renaming and_eq_true→cy
open Go renaming madeCells→eS
open Go.IntKind renaming i64→ae
open Go.Lib renaming hid→aa
open Go.Proofs.Tryz renaming func188→qA,ntmps188→qB,prog→ai
open Go.Value renaming int→af
open List renaming all_append→BE,all_eq_false→qz,all_eq_true→j4,getElem?_eq_getElem→aE,getElem_mem→aK,length_map→dL,length_range→oA,map_append→gO,range→aw,replicate_succ→pu,replicate→aA,set_append_right→ma,set_cons_zero→be,take_add_one→j5,take_of_length_le→iG
open Nat renaming sub_self→kH,zero_le→aW
set_option maxHeartbeats 1000000
namespace Go.Proofs.YtdplggpbgommnaaGreatDoor
open Go.RowKit
theorem wU{a b:Nat}(h:a≠b):((a:Int)!=(b:Int))=true:=by rw[bne_iff_ne];omega
theorem wV{a b:Nat}(h:a=b):((a:Int)!=(b:Int))=false:=by simp[h]
theorem wW{a b:Nat}(h:a=b):((a:Int)==(b:Int))=true:=by simp[h]
theorem wX{a b:Nat}(h:a≠b):((a:Int)==(b:Int))=false:=by rw[beq_eq_false_iff_ne];omega
theorem q0{a b:Int}(h:a≠b):(a !=b)=true:=by simp[h]
theorem ti{a b:Int}(h:a=b):(a !=b)=false:=by simp[h]
theorem kO{a b:Int}(h:a=b):(a==b)=true:=by simp[h]
theorem kK{a b:Int}(h:a≠b):(a==b)=false:=by simp[h]
def gz(lo hi:Int)(l:List Int):Bool:=l.all fun x=>decide (lo≤x∧x≤hi)
theorem C6(E A:Int)(l:List Int)(k:Nat)(G:k<l.length)(h1:E≤l[k])(h2:l[k]≤A)(h:gz E A (l.take k)=true):gz E A (l.take (k+1))=true:=by unfold gz at*;rw[j5,aE G,BE,h];simp[h1,h2]
theorem C7(E A:Int)(l:List Int)(k:Nat)(G:k<l.length)(h:¬(E≤l[k]∧l[k]≤A)):gz E A l=false:=by unfold gz;rw[qz];exact⟨l[k],by simp,by simpa using h⟩
theorem nG(h:Hp)(w:World)(Y:ao h w)(v:Value)(l:List Int)(A E:Int)(ab:Ints h v l):Calls ai 215 #[v,af ae A,af ae E] w fun e w'=>e= .returned (.bool (gz A E l))∧w=w':=by
 obtain⟨a,aj,rfl,aB,G⟩:=ab.open;replace G:=aa (G w Y);clear ab Y;go_enter Tryz.func215,Tryz.ntmps215;go_wp2;go_loop[6,8,11,12,13,14,15,16,17,18,19,20,21,22,23] (fun _ _ i _ _ _ _ _ _ _ _ _ _ _ _=>∃k:Nat,k≤l.length∧i=af ae k∧Hid (gz A E (l.take k)=true)) (fun _ _ i _ _ _ _ _ _ _ _ _ _ _ _=>l.length-(intOf i).toNat);case atStart=>exact⟨0,aW _,rfl,rfl⟩
 case round=>
  obtain⟨k,ax,rfl,ac⟩:=hrel;by_cases M:k<l.length
  ·obtain⟨b,aG,rfl,-,G⟩:=G.out (by omega);have am:=G k M;have ad:=aa (C6 A E l k M);have O:=aa (C7 A E l k M);clear G;generalize l[k]=x at*;by_cases h1:A≤x
   ·by_cases h2:x≤E
    ·go_wp2;go_round;case rel=>exact⟨k+1,by omega,by go_num,ad.out h1 h2 ac⟩
     case measure=>simp[intOf];omega
    ·go_wp2;go_ret;exact⟨by rw[O.out (by omega)];rfl,rfl⟩
   ·have ak:x<A:=by omega
    go_wp2;go_ret;exact⟨by rw[O.out (by omega)];rfl,rfl⟩
  ·go_wp2;go_ret;have:gz A E l=true:=by have:=ac.out;rwa[iG (by omega)]at this
   exact⟨by rw[this];rfl,rfl⟩
def kP(n:Nat)(ls:List (List Int)):Bool:=ls.all fun r=>decide (r.length=n)&&gz (-1) 1048576 r
def jt(drop add:List Int)(cost:List (List Int)):Bool:=
 decide (drop.length≤400)&&decide (add.length≤400)&&decide (cost.length=drop.length)&&gz 0 1048576 drop&&gz 0 1048576 add&&kP add.length cost
theorem C8(n:Nat)(l:List (List Int))(k:Nat)(A:k<l.length)(h1:l[k].length=n)(h2:gz (-1) 1048576 l[k]=true)(h:kP n (l.take k)=true):kP n (l.take (k+1))=true:=by unfold kP at*;rw[j5,aE A,BE,h];simp[h1,h2]
theorem C9(n:Nat)(l:List (List Int))(k:Nat)(A:k<l.length)(h:¬(l[k].length=n∧gz (-1) 1048576 l[k]=true)):kP n l=false:=by unfold kP;rw[qz];exact⟨l[k],by simp,by simpa using h⟩
theorem Da(h:Hp)(w:World)(am:ao h w)(aT aQ aS:Value)(drop add:List Int)(cost:List (List Int))(ak:Ints h aT drop)(ad:Ints h aQ add)(O:gP h aS cost):Calls ai 188 #[aT,aQ,aS] w fun e w'=>e= .returned (.bool (jt drop add cost))∧w=w':=by
 have ac:=aa ak;have aJ:=aa ad;have A:=aa am;obtain⟨a8,ba,rfl,bp,-⟩:=ak.open;obtain⟨a4,ca,rfl,bd,-⟩:=ad.open;obtain⟨a5,a9,rfl,bm,aj⟩:=O.open;replace aj:=aa (aj w am);clear ak ad O am;by_cases h1:400<drop.length;·go_enter qA,qB;go_wp2_with fail;go_ret;exact⟨by simp[jt];omega,rfl⟩
 by_cases h2:400<add.length;·go_enter qA,qB;go_wp2_with fail;go_ret;exact⟨by simp[jt];omega,rfl⟩
 by_cases G:cost.length=drop.length;case neg=>have aZ:((cost.length:Int)!=(drop.length:Int))=true:=wU G;go_enter qA,qB;go_wp2_with fail;go_ret;exact⟨by simp[jt,G],rfl⟩
 have aZ:((cost.length:Int)!=(drop.length:Int))=false:=wV G;have aX:=aa G;clear G;generalize aO:gz 0 1048576 drop=a3;generalize aN:gz 0 1048576 add=a2;have E:=aa aO;have Y:=aa aN;clear aO aN;cases a3;·go_enter qA,qB;go_wp2_with fail;refine(nG h w A.out _ drop _ _ ac.out).mono ?_;rintro e w' ⟨rfl,rfl⟩;rw[E.out];go_wp2_with fail;go_ret;exact⟨by simp[jt,E.out],rfl⟩
 cases a2;·go_enter qA,qB;go_wp2_with fail;refine(nG h w A.out _ drop _ _ ac.out).mono ?_;rintro e w' ⟨rfl,rfl⟩;rw[E.out];go_wp2_with fail;refine(nG h w A.out _ add _ _ aJ.out).mono ?_;rintro e w' ⟨rfl,rfl⟩;rw[Y.out];go_wp2_with fail;go_ret;exact⟨by simp[jt,Y.out],rfl⟩
 go_enter qA,qB;go_wp2_with fail;refine(nG h w A.out _ drop _ _ ac.out).mono ?_;rintro e w' ⟨rfl,rfl⟩;rw[E.out];go_wp2_with fail;refine(nG h w A.out _ add _ _ aJ.out).mono ?_;rintro e w' ⟨rfl,rfl⟩;rw[Y.out];go_wp2_with fail;go_loop[6,8,34,35,36,37,38,39,40,41,42,43,44,45,46,47,48] (fun _ _ i _ _ _ _ _ _ _ _ _ _ _ _ _ _=>∃k:Nat,k≤cost.length∧i=af ae k∧Hid (kP add.length (cost.take k)=true)) (fun _ _ i _ _ _ _ _ _ _ _ _ _ _ _ _ _=>cost.length-(intOf i).toNat);case atStart=>exact⟨0,aW _,rfl,rfl⟩
 case round=>
  obtain⟨k,bq,rfl,aM⟩:=hrel;by_cases ax:k<cost.length
  ·obtain⟨b,bz,rfl,-,O⟩:=aj.out (by omega);obtain⟨ar,cr,bg,aB⟩:=O k ax;have aL:=aa aB;have aV:=aa (C8 add.length cost k ax);have aG:=aa (C9 add.length cost k ax);have bv:=aB.1.len.1;clear O aB;by_cases M:cost[k].length=add.length
   ·have a1:((cost[k].length:Int)!=(add.length:Int))=false:=wV M;have aY:=aa M;clear M;generalize aP:gz (-1) 1048576 cost[k]=wr;have ab:=aa aP;clear aP;cases wr;·go_wp2_with fail;refine(nG h w A.out _ _ _ _ aL.out).mono ?_;rintro e w' ⟨rfl,rfl⟩;rw[ab.out];go_wp2_with fail;go_ret;exact⟨by simp[jt,aG.out (by rw[ab.out];simp)],rfl⟩
    ·go_wp2_with fail;refine(nG h w A.out _ _ _ _ aL.out).mono ?_;rintro e w' ⟨rfl,rfl⟩;rw[ab.out];go_wp2_with fail;go_round;case rel=>exact⟨k+1,by omega,by go_num,aV.out aY.out ab.out aM⟩
     case measure=>simp[intOf];omega
   ·have a1:((cost[k].length:Int)!=(add.length:Int))=true:=wU M;go_wp2_with fail;go_ret;exact⟨by simp[jt,aG.out (by simp[M])],rfl⟩
  ·go_wp2_with fail;go_ret;have:kP add.length cost=true:=by have:=aM.out;rwa[iG (by omega)]at this
   exact⟨by simp[jt,this,E.out,Y.out,aX.out];omega,rfl⟩
def lR(add:List Int):Nat→Int
 |0=>0
 |j+1=>lR add j+add.getD j 0
def nN(prev:Nat→Int)(d:Int)(add crow:List Int):Nat→Int
 |0=>prev 0+d
 |j+1=>
  if 0≤crow.getD j 0 then min (min (prev (j+1)+d) (nN prev d add crow j+add.getD j 0)) (prev j+crow.getD j 0)
  else min (prev (j+1)+d) (nN prev d add crow j+add.getD j 0)
def pt(drop add:List Int)(cost:List (List Int)):Nat→Nat→Int
 |0=>lR add
 |i+1=>nN (pt drop add cost i) (drop.getD i 0) add (cost.getD i [])
structure lS(drop add:List Int)(cost:List (List Int)):Prop where
 dl:drop.length≤400
 al:add.length≤400
 cl:cost.length=drop.length
 rl:∀i (h:i<cost.length),cost[i].length=add.length
 d:∀x∈drop,0≤x∧x≤1048576
 a:∀x∈add,0≤x∧x≤1048576
 c:∀i (h:i<cost.length),∀x∈cost[i],-1≤x∧x≤1048576
theorem pQ(E A:Int)(l:List Int):gz E A l=true↔∀x∈l,E≤x∧x≤A:=by unfold gz;rw[j4];simp
theorem tL{drop add:List Int}{cost:List (List Int)}:jt drop add cost=true↔lS drop add cost:=by
 unfold jt;simp only[cy,decide_eq_true_eq,pQ];constructor;·rintro⟨⟨⟨⟨⟨h1,h2⟩,G⟩,M⟩,O⟩,A⟩;unfold kP at A;rw[j4]at A;simp only[cy,decide_eq_true_eq,pQ]at A;exact⟨h1,h2,G,fun i h=>(A _ (aK h)).1,M,O,fun i h=>(A _ (aK h)).2⟩
 ·intro p;refine⟨⟨⟨⟨⟨p.dl,p.al⟩,p.cl⟩,p.d⟩,p.a⟩,?_⟩;unfold kP;rw[j4];intro r Y;obtain⟨i,E,rfl⟩:=List.mem_iff_getElem.1 Y;simp only[cy,decide_eq_true_eq,pQ];exact⟨p.rl i E,p.c i E⟩
theorem dj{α:Type}(l:List α)(i:Nat)(d:α)(h:i<l.length):l.getD i d=l[i]:=by simp[List.getD,h]
theorem tM{l:List Int}(h:∀x∈l,0≤x∧x≤1048576)(i:Nat):0≤l.getD i 0∧l.getD i 0≤1048576:=by
 rcases Nat.lt_or_ge i l.length with A|A;·rw[dj l i 0 A];exact h _ (aK A)
 ·simp[List.getD,List.getElem?_eq_none A]
theorem mK{drop add:List Int}{cost:List (List Int)}(p:lS drop add cost):∀(i j:Nat),0≤pt drop add cost i j∧pt drop add cost i j≤((i+j:Nat):Int)*1048576
 |0,j=>by
  induction j with
  |zero=>simp[pt,lR]
  |succ j A=>simp only[pt,lR]at A⊢;have:=tM p.a j;omega
 |i+1,j=>by
  have G:=tM p.d i;induction j with
  |zero=>simp only[pt,nN];have:=mK p i 0;omega
  |succ j A=>
   have E:=tM p.a j;have h1:=mK p i (j+1);have h2:=mK p i j;simp only[pt,nN]at A⊢;split;·omega
   ·omega
theorem oU(drop add:List Int)(cost:List (List Int))(i j:Nat):pt drop add cost (i+1) (j+1)=if 0≤(cost.getD i []).getD j 0 then min (min (pt drop add cost i (j+1)+drop.getD i 0) (pt drop add cost (i+1) j+add.getD j 0)) (pt drop add cost i j+(cost.getD i []).getD j 0)else min (pt drop add cost i (j+1)+drop.getD i 0) (pt drop add cost (i+1) j+add.getD j 0):=rfl
def iN(drop add:List Int)(cost:List (List Int)):List (List Int):=(aw (drop.length+1)).map fun i=>(aw (add.length+1)).map (pt drop add cost i)
def bO(drop add:List Int)(cost:List (List Int)):Nat→Nat→Nat→List (Int×Int)
 |0,_,_=>[]
 |f+1,i,j=>
  if 0<i∨0<j then
   if 0<i∧0<j∧0≤(cost.getD (i-1) []).getD (j-1) 0∧pt drop add cost i j=pt drop add cost (i-1) (j-1)+(cost.getD (i-1) []).getD (j-1) 0 then
    (((i-1:Nat):Int),((j-1:Nat):Int))::bO drop add cost f (i-1) (j-1)
   else if 0<i∧pt drop add cost i j=pt drop add cost (i-1) j+drop.getD (i-1) 0 then bO drop add cost f (i-1) j
   else bO drop add cost f i (j-1)
  else[]
theorem oV(drop add:List Int)(cost:List (List Int))(i:Nat):pt drop add cost (i+1) 0=pt drop add cost i 0+drop.getD i 0:=rfl
theorem q9(drop add:List Int)(cost:List (List Int)):∀(f g i j:Nat),i+j≤f→i+j≤g→bO drop add cost f i j=bO drop add cost g i j
 |0,0,i,j,_,_=>rfl
 |0,g+1,i,j,h1,_=>by rw[bO,bO,if_neg (by omega)]
 |f+1,0,i,j,_,h2=>by rw[bO,bO,if_neg (by omega)]
 |f+1,g+1,i,j,h1,h2=>by
  rw[bO,bO];by_cases hz:0<i∨0<j
  ·rw[if_pos hz,if_pos hz];split;·rw[q9 drop add cost f g (i-1) (j-1) (by omega) (by omega)]
   ·split;·rw[q9 drop add cost f g (i-1) j (by omega) (by omega)]
    ·rename_i A
     have hj:0<j:=by
      rcases Nat.eq_zero_or_pos j with rfl|hj
      ·exfalso;apply A;obtain⟨k,rfl⟩:∃k,i=k+1:=⟨i-1,by omega⟩
       exact⟨by omega,oV drop add cost k⟩
      ·exact hj
     rw[q9 drop add cost f g i (j-1) (by omega) (by omega)]
  ·rw[if_neg hz,if_neg hz]
theorem pR(drop add:List Int)(cost:List (List Int)):∀(f i j:Nat),(bO drop add cost f i j).length≤f
 |0,_,_=>by simp[bO]
 |f+1,i,j=>by
  rw[bO];split
  ·split;·have:=pR drop add cost f (i-1) (j-1);simp;omega
   ·split;·have:=pR drop add cost f (i-1) j;omega
    ·have:=pR drop add cost f i (j-1);omega
  ·simp
theorem nO(drop add:List Int)(cost:List (List Int)):∀(f i j:Nat) (p:Int×Int),p∈bO drop add cost f i j→0≤p.1∧p.1<i∧0≤p.2∧p.2<j
 |0,_,_,p,h=>by simp[bO]at h
 |f+1,i,j,p,h=>by
  rw[bO]at h;split at h
  ·split at h
   ·rename_i h1;rcases List.mem_cons.1 h with rfl|h;·simp only;omega
    ·have:=nO drop add cost f (i-1) (j-1) p h;omega
   ·split at h;·have:=nO drop add cost f (i-1) j p h;omega
    ·have:=nO drop add cost f i (j-1) p h;omega
  ·simp at h
def e0(drop add:List Int)(cost:List (List Int)):jr:=
 {aR:=(bO drop add cost (drop.length+add.length) drop.length add.length).reverse,cost:=pt drop add cost drop.length add.length,bM:=iN drop add cost}
def hG(f:Nat→Int)(n j:Nat):List Int:=(aw j).map f++aA (n-j) 0
theorem xC(f:Nat→Int)(n j:Nat)(h:j<n):(hG f n j).set j (f j)=hG f n (j+1):=by unfold hG;rw[ma _ _ (by simp),dL,oA,kH,show n-j=(n-(j+1))+1 by omega,pu,be,List.range_succ,gO,List.append_assoc];rfl
theorem D2(f:Nat→Int)(n j:Nat)(h:j<n):((hG f n j).map (af ae)).set j (af ae (f j))=(hG f n (j+1)).map (af ae):=by rw[←List.map_set,xC f n j h]
theorem D3(f:Nat→Int)(n j k:Nat)(h:k<j):((hG f n j).map (af ae))[k]? =some (af ae (f k)):=by unfold hG;rw[gO,List.getElem?_append_left (by simp;omega)];simp[h]
theorem D4(f:Nat→Int)(n j:Nat)(h:j<n):((hG f n j).map (af ae))[j]? =some (af ae 0):=by
 unfold hG;have h':0<n-j:=by omega
 rw[gO,List.getElem?_append_right (by simp)];simp[h']
theorem D5(f:Nat→Int)(n j:Nat)(h:j<n)(hz:f j=0):hG f n (j+1)=hG f n j:=by rw[←xC f n j h,hz];unfold hG;rw[ma _ _ (by simp),dL,oA,kH,show n-j=(n-(j+1))+1 by omega,pu,be]
theorem D6(f:Nat→Int)(n:Nat):hG f n n=(aw n).map f:=by simp[hG]
theorem j7(z:Value)(n:Nat):(eS #[z] (n*1)).toList=aA n z:=by
 apply List.ext_getElem?;intro i;rw[Nat.mul_one];by_cases h:i<n;·simp[eS,h,Nat.mod_one]
 ·simp[eS,h]
end Go.Proofs.YtdplggpbgommnaaGreatDoor
