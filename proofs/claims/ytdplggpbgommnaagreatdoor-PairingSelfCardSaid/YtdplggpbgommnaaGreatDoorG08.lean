/- An append inside a region that draws its order. -/
import Derived.Deep.AppendLies
import Derived.Test.YtdplggpbgommnaaGreatDoorG07
import Derived.Test.YtdplggpbgommnaaGreatDoorG06
open ByteArray renaming mk→qC
open Go.Addr.mk renaming injEq→cx
open Go.ByteArray renaming toList_eq→eT
open Go.IntKind renaming i64→ae
open Go.Lib renaming hid→aa,indexByte→vQ
open Go.Proofs.Any renaming strings_IndexByte→BM
open Go.Proofs.Tryz renaming idxL→BN,prog→ai
open Go.Value renaming int→af,slice→ag
open Go.Value.slice renaming injEq→bU
open Nat renaming eq_zero_or_pos→et
open Option.some renaming injEq→aC
set_option maxRecDepth 100000
set_option maxHeartbeats 4000000
namespace Go.Proofs.YtdplggpbgommnaaGreatDoor
open Go.RowKit
theorem gS{P:Program}{t e:TypeId}{O bytes:Nat}{z:List Value}(G:eZ P t e O bytes z){ops:Array Oper}{o:Oper}{a:Act}{K:Act→World→Prop}{Q:Exit→Act→World→Prop}{F:Prop}(aB:o.guard=none)(s x:Operand)(aO:o.op= .call {callee:= .builtin .append,args:= #[s,x],argTypes:= #[t,t]}){B:Nat}{ac h:Hp}{w0 w:World}(st:St B ac w0 h w)(v:Value)(n:Nat)(xs:List Value)(aP:a.eval s=v)(Y:Ow w h B e O v n xs)(ab:Addr)(m c:Nat)(news:List Value)(aT:a.eval x=ag (some ab) m c)(aJ:news.length=m*O)(aN:∀j u,news[j]? =some u→w.cell? (ab.add j)=some u)(h1:∀u∈news,u.oneCell'=true)(aL:0<m)(ao:(n+m)*bytes≤140737488355328)(am:∀g E w',St B ac w0 h w'→Ow w' h B e O (ag (some ⟨g,0,none⟩) (n+m) E) (n+m) (xs++news)→w.grownBy w' v.ownBlock→((ag (some ⟨g,0,none⟩) (n+m) E).ownBlock=v.ownBlock∨(ag (some ⟨g,0,none⟩) (n+m) E).ownBlock=some w.heap.size)→K (a.put o.dst (ag (some ⟨g,0,none⟩) (n+m) E)) w'):if Region.wanted o (yielded ops a.tmps)=true then Oper.wp P o a w K Q else F:=by
 obtain⟨i,zv,aG,hz,aS,ax,aV⟩:=G.lJ;have aM:n+m≤maxLen:=by have:=Nat.le_mul_of_pos_right (n+m) G.qR;simp only[maxLen];omega
 refine step_append_lies w aB s x t aO B e i zv O bytes G.kL aG hz aS ax (by rw[aV];simpa using G.wO) G.pos v n xs aP Y.row ab m c news aT aJ aN h1 aL aM ao st.size _ rfl ?_;intro g E w' h2 ad A _
 have aj:(ag (some ⟨g,0,none⟩) (n+m) E).ownBlock=v.ownBlock∨(ag (some ⟨g,0,none⟩) (n+m) E).ownBlock=some w.heap.size:=by
  rcases A with A|A;·exact .inl A.symm
  ·exact .inr (by rw[A];rfl)
 have aQ:St B ac w0 h w':=st.grown ad (fun k ak=>⟨(Y.lt k ak).1,Y.free k ak⟩);refine am g E w' aQ (Ow.of h2 st.I (fun g M=>Y.free g M) ?_) ad aj;intro aX M;rcases aj with A|A;·exact .inr (by rw[←A,M])
 ·rw[A]at M;exact .inl (by simp only[aC]at M;omega)
theorem Ints.gA{h:Hp}{v:Value}{l:List Int}(ax:Ints h v l)(ak:0<l.length):∃b A E,v=ag (some ⟨b,A,none⟩) l.length E∧l.length≤140737488355328∧∀w,ao h w→b<w.heap.size∧∀k (ab:k<l.length),w.cell? ⟨b,A+k,none⟩=some (af ae l[k]):=by
 obtain⟨s,aL⟩:=ax;obtain⟨a,E,rfl,aj⟩:=s.shape;have am:=s;obtain⟨a',aB,O,h1,h2,G⟩:=am;simp only[bU,true_and]at O;obtain⟨rfl,rfl⟩:=O;rcases G with G|⟨b,A,c,rfl,ac,aJ⟩;·omega
 refine⟨b,A,E,rfl,aj,fun w Y=>⟨cD (Y b c ac),fun k ab=> ?_⟩⟩;obtain⟨b',aM,M,aG,ad⟩:=s.cells Y ak;simp only[aC,cx,and_true]at M;obtain⟨rfl,rfl⟩:=M;exact ad _ _ (wP l k ab)
def tI:ByteArray:=⟨#[40,41,91,93,58,44,61,43,45,42,60,63]⟩
def tJ(ab lt db qb eq lg e2 sg:Bool)(wd:Int×Int×Int)(nb qt:Int×Int):Int×Int×Int:=
 match ab with
 |false=>(0,0,1)
 |true=>match lt with
  |true=>wd
  |false=>match db with
   |true=>(5,nb.1,nb.2)
   |false=>match qb with
    |true=>(6,qt.1,qt.2)
    |false=>match eq,lg,e2 with
     |true,true,true=>(8,2,0)
     |_,_,_=>match sg with
      |true=>(8,1,0)
      |false=>(0,0,2)
def dO(s:ByteArray):Int×Int×Int:=
 tJ (mG (bt s 0)) (eI (bt s 0)) (ey (bt s 0)) (bt s 0==34) (bt s 0==61) (decide (1<s.size)) (bt s 1==61) (decide (0≤vQ tI.data.toList (bt s 0).toNat.toUInt8)) (iM s) (kU s) (lQ s)
theorem xz(w:World)(s:ByteArray)(ak:s.size≤140737488355328)(h1:1≤s.size):Calls ai 89 #[.string s] w fun e w'=>e= .returned (.tuple #[af ae (dO s).1,af ae (dO s).2.1,af ae (dO s).2.2])∧w=w':=by
 generalize aj:dO s=r;unfold dO at aj;generalize aB:mG (bt s 0)=aY at*;generalize aP:eI (bt s 0)=a9 at*;generalize aG:ey (bt s 0)=aZ at*;generalize aQ:(bt s 0==34)=ba at*;generalize aL:(bt s 0==61)=a2 at*;generalize aO:decide (1<s.size)=a8 at*;generalize aJ:(bt s 1==61)=a1 at*;generalize A:vQ tI.data.toList (bt s 0).toNat.toUInt8=M at*;generalize aS:decide (0≤M)=Y at*;have E:=aa aj.symm;have aT:=aa aB;have aX:=aa aP;have aV:=aa aG;have ax:=aa aQ;have am:=aa aL;have ab:=aa aO;have ao:=aa aJ;have ac:Hid (vQ (qC #[40,41,91,93,58,44,61,43,45,42,60,63]).data.toList (bt s 0).toNat.toUInt8=M):=A;have O:=aa aS;clear aj aB aP aG aQ aL aO aJ A aS;have bd:((s[0]'(by omega)).toNat:Int)=bt s 0:=ei (by omega);go_enter Tryz.func89,Tryz.ntmps89;go_wp2_with fail;refine(w5 _ _).mono ?_;rintro e w1 ⟨rfl,rfl⟩;rw[aT.out];cases aY;·go_wp2_with fail;go_ret3;exact⟨by rw[E.out];try rfl,rfl⟩
 ·go_wp2_with fail;refine(tj _ _).mono ?_;rintro e w1 ⟨rfl,rfl⟩;rw[aX.out];cases a9
  ·go_wp2_with fail;refine(q2 _ _).mono ?_;rintro e w1 ⟨rfl,rfl⟩;rw[aV.out];cases aZ
   ·cases ba
    ·have a3:=ax.out;cases a2
     ·have h1:=am.out;go_wp2_with fail;refine(BM BN _ _ _).mono ?_;rintro e w1 ⟨rfl,rfl⟩;rw[ac.out];by_cases A:0≤M
      ·have G:Y=true:=by rw[←O.out];simpa using A
       subst G;go_wp2_with fail;go_ret3;exact⟨by rw[E.out];try rfl,rfl⟩
      ·have G:Y=false:=by rw[←O.out];simpa using A
       subst G;have aM:M<0:=by omega
       have aN:decide (0≤M)=false:=by simpa using A
       go_wp2_with fail;go_ret3;exact⟨by rw[E.out];try rfl,rfl⟩
     ·have h1:=am.out;cases a8
      ·have ad:¬1<s.size:=by simpa using ab.out
       have a4:¬(1:Int)<(s.size:Int):=by omega
       have h2:=ab.out;go_wp2_with fail;refine(BM BN _ _ _).mono ?_;rintro e w1 ⟨rfl,rfl⟩;rw[ac.out];by_cases A:0≤M
       ·have G:Y=true:=by rw[←O.out];simpa using A
        subst G;go_wp2_with fail;go_ret3;exact⟨by rw[E.out];try rfl,rfl⟩
       ·have G:Y=false:=by rw[←O.out];simpa using A
        subst G;have aM:M<0:=by omega
        have aN:decide (0≤M)=false:=by simpa using A
        go_wp2_with fail;go_ret3;exact⟨by rw[E.out];try rfl,rfl⟩
      ·have ad:1<s.size:=of_decide_eq_true ab.out;have a4:(1:Int)<(s.size:Int):=by omega
       have bg:((s[1]'ad).toNat:Int)=bt s 1:=ei ad;cases a1
       ·have a5:=ao.out;go_wp2_with fail;refine(BM BN _ _ _).mono ?_;rintro e w1 ⟨rfl,rfl⟩;rw[ac.out];by_cases A:0≤M
        ·have G:Y=true:=by rw[←O.out];simpa using A
         subst G;go_wp2_with fail;go_ret3;exact⟨by rw[E.out];try rfl,rfl⟩
        ·have G:Y=false:=by rw[←O.out];simpa using A
         subst G;have aM:M<0:=by omega
         have aN:decide (0≤M)=false:=by simpa using A
         go_wp2_with fail;go_ret3;exact⟨by rw[E.out];try rfl,rfl⟩
       ·have a5:=ao.out;go_wp2_with fail;go_ret3;exact⟨by rw[E.out];try rfl,rfl⟩
    ·have a3:=ax.out;go_wp2_with fail;refine(DR _ s ak h1).mono ?_;rintro e w1 ⟨rfl,rfl⟩;go_wp2_with fail;go_ret3;exact⟨by rw[E.out];try rfl,rfl⟩
   ·go_wp2_with fail;refine(DQ _ s ak).mono ?_;rintro e w1 ⟨rfl,rfl⟩;go_wp2_with fail;go_ret3;exact⟨by rw[E.out];try rfl,rfl⟩
  ·go_wp2_with fail;refine(DS _ s ak h1).mono ?_;rintro e w1 ⟨rfl,rfl⟩;go_wp2_with fail;go_ret3;exact⟨by rw[E.out];try rfl,rfl⟩
def ke(s:ByteArray):Int:=if s.data.toList=[]then 0 else if(dO s).2.2≠0 then 0 else if(dO s).2.1≠(s.size:Int)then 0 else(dO s).1
theorem DW(w:World)(s:ByteArray)(aj:s.size≤140737488355328):Calls ai 136 #[.string s] w fun e w'=>e= .returned (af ae (ke s))∧w=w':=by
 generalize M:ke s=r;unfold ke at M;generalize O:dO s=t at*;have E:=aa M.symm;have Y:=aa O;clear M O;go_enter Tryz.func136,Tryz.ntmps136;by_cases A:s.data.toList=[]
 ·have ab:s.toList.isEmpty=true:=by rw[eT,A];rfl
  go_wp2_with fail;go_ret;exact⟨by rw[E.out,if_pos A];try rfl,rfl⟩
 ·have ab:s.toList.isEmpty=false:=by rw[eT];simpa using A
  have h1:1≤s.size:=by
   rcases et s.size with h|h;·exact absurd (List.eq_nil_of_length_eq_zero h) A
   ·exact h
  go_wp2_with fail;refine(xz _ s aj h1).mono ?_;rintro e w1 ⟨rfl,rfl⟩;rw[Y.out];by_cases h2:t.2.2=0
  ·have ac:(t.2.2 !=0)=false:=by simpa using h2
   by_cases G:t.2.1=(s.size:Int)
   ·have ad:(t.2.1 !=(s.size:Int))=false:=by simpa using G
    go_wp2_with fail;go_ret;exact⟨by rw[E.out,if_neg A,if_neg (by simpa using h2),if_neg (by simpa using G)];try rfl,rfl⟩
   ·have ad:(t.2.1 !=(s.size:Int))=true:=by simpa using G
    go_wp2_with fail;go_ret;exact⟨by rw[E.out,if_neg A,if_neg (by simpa using h2),if_pos G];try rfl,rfl⟩
  ·have ac:(t.2.2 !=0)=true:=by simpa using h2
   go_wp2_with fail;go_ret;exact⟨by rw[E.out,if_neg A,if_pos h2];try rfl,rfl⟩
theorem xA{f:Int→Bool}{s:ByteArray}(h:1≤s.size)(E:f (bt s 0)=true):1≤di f s 0:=by
 rcases et (di f s 0)with A|A
 ·exfalso;obtain⟨⟨l⟩⟩:=s;cases l with
  |nil=>exact absurd h (by decide)
  |cons c l=>unfold di at A;unfold bt at E;have G:f (c.toNat:Int)=true:=E;dsimp only at A;rw[List.drop_zero,List.takeWhile_cons,G]at A;simp at A
 ·exact A
theorem xB(s:ByteArray):∀(f i:Nat),i+f≤s.size→1≤i→(kV s f i).2=0→1≤(kV s f i).1∧(kV s f i).1≤(s.size:Int)
 |0,i,_,_,h=>by simp[kV]at h
 |f+1,i,G,h1,h=>by
  rw[kV]at h⊢;split at h;·simp at h
  ·rename_i g1;rw[if_neg g1];split at h;·rename_i A;rw[if_pos A];dsimp only;omega
   ·rename_i A;rw[if_neg A];split at h;·simp at h
    ·rename_i E;rw[if_neg E];exact xB s f (i+1) (by omega) (by omega) h
theorem DX(s:ByteArray)(h1:1≤s.size)(ac:eI (bt s 0)=true)(h:(iM s).2.2=0):1≤(iM s).2.1∧(iM s).2.1≤(s.size:Int):=by
 have ak:1≤di cn s 0:=xA h1 (by unfold cn;rw[ac];rfl);have aj:=pP cn s 0;have ad:=pP cn (s.extract (di cn s 0+1) s.size) 0;rw[extract_size]at ad;unfold iM at h⊢;dsimp only at h⊢;generalize di cn s 0=n at*;generalize di cn (s.extract (n+1) s.size) 0=m at*;by_cases ab:n+1<s.size;·generalize decide (n+1<s.size)=b1 at*;generalize fc (bt s 0)=G at*;generalize kW (s.extract 0 n)=rb at*;generalize(bt s n==46)=b2 at*;generalize eI (bt s (n+1))=b3 at*;generalize decide (24<n)=E at*;generalize fU (bt s 0)=A at*;generalize decide (24<m)=O at*;generalize kW (s.extract (n+1) (n+1+m))=Y at*;generalize fU (bt s (n+1))=M at*;cases G<;>cases rb<;>cases b1<;>cases b2<;>cases b3<;>cases E<;>cases A<;>cases O<;>cases Y<;>cases M<;>simp only[tD]at h⊢<;>first|omega|(exact absurd h (by decide))
 ·have:decide (n+1<s.size)=false:=by simpa using ab
  rw[this]at h⊢;generalize fc (bt s 0)=G at*;generalize kW (s.extract 0 n)=rb at*;generalize(bt s n==46)=b2 at*;generalize eI (bt s (n+1))=b3 at*;generalize decide (24<n)=E at*;generalize fU (bt s 0)=A at*;generalize decide (24<m)=O at*;generalize kW (s.extract (n+1) (n+1+m))=Y at*;generalize fU (bt s (n+1))=M at*;cases G<;>cases rb<;>cases b2<;>cases b3<;>cases E<;>cases A<;>simp only[tD]at h⊢<;>first|omega|(exact absurd h (by decide))
theorem DY(s:ByteArray)(h1:1≤s.size)(h:(dO s).2.2=0):1≤(dO s).2.1∧(dO s).2.1≤(s.size:Int):=by
 have aj:eI (bt s 0)=true→(iM s).2.2=0→1≤(iM s).2.1∧(iM s).2.1≤(s.size:Int):=DX s h1;have ad:(lQ s).2=0→1≤(lQ s).1∧(lQ s).1≤(s.size:Int):=xB s (s.size-1) 1 (by omega) (by omega)
 have ac:ey (bt s 0)=true→(kU s).2=0→1≤(kU s).1∧(kU s).1≤(s.size:Int):=fun ab A=>by
  have aG:1≤di ey s 0:=xA h1 ab;have aB:=pP ey s 0;unfold kU at A⊢;dsimp only at A⊢;split at A;·simp at A
  ·rename_i g1;rw[if_neg g1];split at A;·simp at A
   ·rename_i Y;rw[if_neg Y];dsimp only;omega
 have h2:decide (1<s.size)=true→(2:Int)≤(s.size:Int):=fun t=>by have:=of_decide_eq_true t;omega
 unfold dO at h⊢;generalize decide (1<s.size)=ak at*;generalize mG (bt s 0)=E at*;generalize eI (bt s 0)=am at*;generalize ey (bt s 0)=G at*;generalize(bt s 0==34)=ao at*;generalize(bt s 0==61)=O at*;generalize(bt s 1==61)=M at*;generalize decide (0≤vQ tI.data.toList (bt s 0).toNat.toUInt8)=ax at*;generalize iM s=aM at*;generalize kU s=aJ at*;generalize lQ s=aL at*;cases E;·simp[tJ]at h
 cases am
 rotate_left
 ·exact aj rfl h
 cases G
 rotate_left
 ·exact ac rfl h
 cases ao
 rotate_left
 ·exact ad h
 cases O<;>cases ak<;>cases M<;>cases ax<;>simp only[tJ]at h⊢<;>first|(have:=h2 rfl;omega)|omega|(exact absurd h (by decide))
theorem Hn(kids A leads:Int)(w:World):Calls ai 135 #[af ae kids,af ae A,af ae leads] w fun e w'=>(∃z,e= .returned (af ae z)∧z=if kids<A then-1 else leads)∧w'=w:=by
 by_cases h:kids<A
 all_goals
  go_enter Tryz.func135,Tryz.ntmps135;go_wp2_with fail;go_ret;simp
theorem Ho(k:Int)(n:Nat)(O:n≤140737488355328)(w:World):Calls ai 96 #[af ae k,af ae n] w fun e w'=>e= .returned (af ae (b9 k n))∧w'=w:=by
 have q1:=bA (n:=(n:Int)-2) (by omega);have A:=bA (n:=(n:Int)-1) (by omega);have E:=bA (n:=(n:Int)+3) (by omega);have G:=bA (n:=(n:Int)+2) (by omega);have M:=bA (n:=(n:Int)+1) (by omega);go_enter Tryz.func96,Tryz.ntmps96;go_wp2_with(go_at_call 135;refine(Hn _ _ _ _).mono ?_;rintro e w1 ⟨⟨z,rfl,hz⟩,rfl⟩)
 all_goals
  go_ret;refine⟨w6 ?_,rfl⟩;clear q1 A E G M;simp only[beq_iff_eq,beq_eq_false_iff_ne,ne_eq]at*;unfold b9;omega
end Go.Proofs.YtdplggpbgommnaaGreatDoor
