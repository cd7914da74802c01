/- An append inside a region that draws its order. -/
import Derived.Deep.AppendLies
import Derived.Test.YtdplggpbgommnaaGreatDoorG07
import Derived.Test.YtdplggpbgommnaaGreatDoorG08
open ByteArray renaming mk->qC
open Go.Addr.mk renaming injEq->cx
open Go.ByteArray renaming toList_eq->eT
open Go.IntKind renaming i64->ae
open Go.Lib renaming hid->aa,indexByte->vQ
open Go.Proofs.Any renaming strings_IndexByte->BM
open Go.Proofs.Tryz renaming idxL->BN,prog->ai
open Go.Value renaming int->af,slice->ag
open Go.Value.slice renaming injEq->bU
open Nat renaming eq_zero_or_pos->et
open Option.some renaming injEq->aC
set_option maxRecDepth 100000
set_option maxHeartbeats 4000000
namespace Go.Proofs.YtdplggpbgommnaaGreatDoor
open Go.RowKit
theorem gS{P:Program}{t e:TypeId}{size bytes:Nat}{z:List Value}(E:eZ P t e size bytes z){ops:Array Oper}{o:Oper}{a:Act}{K:Act->World->Prop}{Q:Exit->Act->World->Prop}{F:Prop}(aB:o.guard=none)(s x:Operand)(aN:o.op= .call {callee:= .builtin .append,args:= #[s,x],argTypes:= #[t,t]}){B:Nat}{ab h:Hp}{w0 w:World}(st:St B ab w0 h w)(v:Value)(n:Nat)(xs:List Value)(hs:a.eval s=v)(Y:Ow w h B e size v n xs)(ad:Addr)(m c:Nat)(news:List Value)(hx:a.eval x=ag (some ad) m c)(aJ:news.length=m*size)(aM:∀j u,news[j]? =some u->w.cell? (ad.add j)=some u)(h1:∀u∈news,u.oneCell'=true)(hm:0<m)(ao:(n+m)*bytes<=140737488355328)(hK:∀g J w',St B ab w0 h w'->Ow w' h B e size (ag (some ⟨g,0,none⟩) (n+m) J) (n+m) (xs++news)->w.grownBy w' v.ownBlock->((ag (some ⟨g,0,none⟩) (n+m) J).ownBlock=v.ownBlock\/(ag (some ⟨g,0,none⟩) (n+m) J).ownBlock=some w.heap.size)->K (a.put o.dst (ag (some ⟨g,0,none⟩) (n+m) J)) w'):if Region.wanted o (yielded ops a.tmps)=true then Oper.wp P o a w K Q else F:=by
 obtain⟨i,zv,aG,hz,aP,ax,aQ⟩:=E.lJ;have aL:n+m<=maxLen:=by have:=Nat.le_mul_of_pos_right (n+m) E.qR;simp only[maxLen];omega
 refine step_append_lies w aB s x t aN B e i zv size bytes E.und aG hz aP ax (by rw[aQ];simpa using E.wO) E.pos v n xs hs Y.row ad m c news hx aJ aM h1 hm aL ao st.size _ rfl ?_;intro g J w' h2 aj G _
 have ak:(ag (some ⟨g,0,none⟩) (n+m) J).ownBlock=v.ownBlock\/(ag (some ⟨g,0,none⟩) (n+m) J).ownBlock=some w.heap.size:=by
  rcases G with G|G;·exact .inl G.symm
  ·exact .inr (by rw[G];rfl)
 have aO:St B ab w0 h w':=st.grown aj (fun k am=>⟨(Y.lt k am).1,Y.free k am⟩);refine hK g J w' aO (Ow.of h2 st.I (fun g O=>Y.free g O) ?_) aj ak;intro g' O;rcases ak with G|G;·exact .inr (by rw[<-G,O])
 ·rw[G]at O;exact .inl (by simp only[aC]at O;omega)
theorem Ints.gA{h:Hp}{v:Value}{l:List Int}(hv:Ints h v l)(hp:0<l.length):∃b off G,v=ag (some ⟨b,off,none⟩) l.length G/\l.length<=140737488355328/\∀w,ao h w->b<w.heap.size/\∀k (ab:k<l.length),w.cell? ⟨b,off+k,none⟩=some (af ae l[k]):=by
 obtain⟨s,hr⟩:=hv;obtain⟨a,G,rfl,hn⟩:=s.shape;have hs:=s;obtain⟨a',am,he,h1,h2,J⟩:=hs;simp only[bU,true_and]at he;obtain⟨rfl,rfl⟩:=he;rcases J with J|⟨b,off,c,rfl,aj,hc⟩;·omega
 refine⟨b,off,G,rfl,hn,fun w Y=>⟨cD (Y b c aj),fun k ab=> ?_⟩⟩;obtain⟨b',aB,O,ax,ak⟩:=s.cells Y hp;simp only[aC,cx,and_true]at O;obtain⟨rfl,rfl⟩:=O;exact ak _ _ (wP l k ab)
def tI:ByteArray:=⟨#[40,41,91,93,58,44,61,43,45,42,60,63]⟩
def tJ(ab lt db qb eq lg e2 sg:Bool)(wd:Int×Int×Int)(nb qt:Int×Int):Int×Int×Int:=
 match ab with
 |false=>(0,0,1)
 |true=>match lt with
  |true=>wd
  |false=>match db with
   |true=>(5,nb.1,nb.2)
   |false=>match qb with
    |true=>(6,qt.1,qt.2)
    |false=>match eq,lg,e2 with
     |true,true,true=>(8,2,0)
     |_,_,_=>match sg with
      |true=>(8,1,0)
      |false=>(0,0,2)
def dO(s:ByteArray):Int×Int×Int:=
 tJ (mG (bt s 0)) (eI (bt s 0)) (ey (bt s 0)) (bt s 0==34) (bt s 0==61) (decide (1<s.size)) (bt s 1==61) (decide (0<=vQ tI.data.toList (bt s 0).toNat.toUInt8)) (iM s) (kU s) (lQ s)
theorem xz(w:World)(s:ByteArray)(hs:s.size<=140737488355328)(h1:1<=s.size):Calls ai 89 #[.string s] w fun e w'=>e= .returned (.tuple #[af ae (dO s).1,af ae (dO s).2.1,af ae (dO s).2.2])/\w=w':=by
 generalize hr:dO s=r;unfold dO at hr;generalize aJ:mG (bt s 0)=a1 at*;generalize aS:eI (bt s 0)=a9 at*;generalize aL:ey (bt s 0)=db at*;generalize aT:(bt s 0==34)=ba at*;generalize aN:(bt s 0==61)=eq at*;generalize aQ:decide (1<s.size)=a8 at*;generalize aM:(bt s 1==61)=a2 at*;generalize G:vQ tI.data.toList (bt s 0).toNat.toUInt8=Y at*;generalize aV:decide (0<=Y)=aj at*;have J:=aa hr.symm;have aX:=aa aJ;have aZ:=aa aS;have aY:=aa aL;have aG:=aa aT;have ax:=aa aN;have ak:=aa aQ;have aB:=aa aM;have am:Hid (vQ (qC #[40,41,91,93,58,44,61,43,45,42,60,63]).data.toList (bt s 0).toNat.toUInt8=Y):=G;have ab:=aa aV;clear hr aJ aS aL aT aN aQ aM G aV;have bd:((s[0]'(by omega)).toNat:Int)=bt s 0:=ei (by omega);go_in;go_wp2_with fail;refine(w5 _ _).mono ?_;rintro e w1 ⟨rfl,rfl⟩;rw[aX.out];cases a1;·go_wp2_with fail;go_ret3;exact⟨by rw[J.out];try rfl,rfl⟩
 ·go_wp2_with fail;refine(tj _ _).mono ?_;rintro e w1 ⟨rfl,rfl⟩;rw[aZ.out];cases a9
  ·go_wp2_with fail;refine(q2 _ _).mono ?_;rintro e w1 ⟨rfl,rfl⟩;rw[aY.out];cases db
   ·cases ba
    ·have a3:=aG.out;cases eq
     ·have h1:=ax.out;go_wp2_with fail;refine(BM BN _ _ _).mono ?_;rintro e w1 ⟨rfl,rfl⟩;rw[am.out];by_cases G:0<=Y
      ·have O:aj=true:=by rw[<-ab.out];simpa using G
       subst O;go_wp2_with fail;go_ret3;exact⟨by rw[J.out];try rfl,rfl⟩
      ·have O:aj=false:=by rw[<-ab.out];simpa using G
       subst O;have aO:Y<0:=by omega
       have aP:decide (0<=Y)=false:=by simpa using G
       go_wp2_with fail;go_ret3;exact⟨by rw[J.out];try rfl,rfl⟩
     ·have h1:=ax.out;cases a8
      ·have ao:¬1<s.size:=by simpa using ak.out
       have a4:¬(1:Int)<(s.size:Int):=by omega
       have h2:=ak.out;go_wp2_with fail;refine(BM BN _ _ _).mono ?_;rintro e w1 ⟨rfl,rfl⟩;rw[am.out];by_cases G:0<=Y
       ·have O:aj=true:=by rw[<-ab.out];simpa using G
        subst O;go_wp2_with fail;go_ret3;exact⟨by rw[J.out];try rfl,rfl⟩
       ·have O:aj=false:=by rw[<-ab.out];simpa using G
        subst O;have aO:Y<0:=by omega
        have aP:decide (0<=Y)=false:=by simpa using G
        go_wp2_with fail;go_ret3;exact⟨by rw[J.out];try rfl,rfl⟩
      ·have ao:1<s.size:=of_decide_eq_true ak.out;have a4:(1:Int)<(s.size:Int):=by omega
       have bg:((s[1]'ao).toNat:Int)=bt s 1:=ei ao;cases a2
       ·have a5:=aB.out;go_wp2_with fail;refine(BM BN _ _ _).mono ?_;rintro e w1 ⟨rfl,rfl⟩;rw[am.out];by_cases G:0<=Y
        ·have O:aj=true:=by rw[<-ab.out];simpa using G
         subst O;go_wp2_with fail;go_ret3;exact⟨by rw[J.out];try rfl,rfl⟩
        ·have O:aj=false:=by rw[<-ab.out];simpa using G
         subst O;have aO:Y<0:=by omega
         have aP:decide (0<=Y)=false:=by simpa using G
         go_wp2_with fail;go_ret3;exact⟨by rw[J.out];try rfl,rfl⟩
       ·have a5:=aB.out;go_wp2_with fail;go_ret3;exact⟨by rw[J.out];try rfl,rfl⟩
    ·have a3:=aG.out;go_wp2_with fail;refine(DR _ s hs h1).mono ?_;rintro e w1 ⟨rfl,rfl⟩;go_wp2_with fail;go_ret3;exact⟨by rw[J.out];try rfl,rfl⟩
   ·go_wp2_with fail;refine(DQ _ s hs).mono ?_;rintro e w1 ⟨rfl,rfl⟩;go_wp2_with fail;go_ret3;exact⟨by rw[J.out];try rfl,rfl⟩
  ·go_wp2_with fail;refine(DS _ s hs h1).mono ?_;rintro e w1 ⟨rfl,rfl⟩;go_wp2_with fail;go_ret3;exact⟨by rw[J.out];try rfl,rfl⟩
def ke(s:ByteArray):Int:=if s.data.toList=[]then 0 else if(dO s).2.2≠0 then 0 else if(dO s).2.1≠(s.size:Int)then 0 else(dO s).1
theorem DW(w:World)(s:ByteArray)(hs:s.size<=140737488355328):Calls ai 136 #[.string s] w fun e w'=>e= .returned (af ae (ke s))/\w=w':=by
 generalize hr:ke s=r;unfold ke at hr;generalize Y:dO s=t at*;have J:=aa hr.symm;have ab:=aa Y;clear hr Y;go_in;by_cases G:s.data.toList=[]
 ·have aj:s.toList.isEmpty=true:=by rw[eT,G];rfl
  go_wp2_with fail;go_ret;exact⟨by rw[J.out,if_pos G];try rfl,rfl⟩
 ·have aj:s.toList.isEmpty=false:=by rw[eT];simpa using G
  have h1:1<=s.size:=by
   rcases et s.size with h|h;·exact absurd (List.eq_nil_of_length_eq_zero h) G
   ·exact h
  go_wp2_with fail;refine(xz _ s hs h1).mono ?_;rintro e w1 ⟨rfl,rfl⟩;rw[ab.out];by_cases h2:t.2.2=0
  ·have ak:(t.2.2 !=0)=false:=by simpa using h2
   by_cases O:t.2.1=(s.size:Int)
   ·have am:(t.2.1 !=(s.size:Int))=false:=by simpa using O
    go_wp2_with fail;go_ret;exact⟨by rw[J.out,if_neg G,if_neg (by simpa using h2),if_neg (by simpa using O)];try rfl,rfl⟩
   ·have am:(t.2.1 !=(s.size:Int))=true:=by simpa using O
    go_wp2_with fail;go_ret;exact⟨by rw[J.out,if_neg G,if_neg (by simpa using h2),if_pos O];try rfl,rfl⟩
  ·have ak:(t.2.2 !=0)=true:=by simpa using h2
   go_wp2_with fail;go_ret;exact⟨by rw[J.out,if_neg G,if_pos h2];try rfl,rfl⟩
theorem xA{f:Int->Bool}{s:ByteArray}(h:1<=s.size)(hf:f (bt s 0)=true):1<=di f s 0:=by
 rcases et (di f s 0)with G|G
 ·exfalso;obtain⟨⟨l⟩⟩:=s;cases l with
  |nil=>exact absurd h (by decide)
  |cons c l=>unfold di at G;unfold bt at hf;have J:f (c.toNat:Int)=true:=hf;dsimp only at G;rw[List.drop_zero,List.takeWhile_cons,J]at G;simp at G
 ·exact G
theorem xB(s:ByteArray):∀(f i:Nat),i+f<=s.size->1<=i->(kV s f i).2=0->1<=(kV s f i).1/\(kV s f i).1<=(s.size:Int)
 |0,i,_,_,h=>by simp[kV]at h
 |f+1,i,J,h1,h=>by
  rw[kV]at h⊢;split at h;·simp at h
  ·rename_i g1;rw[if_neg g1];split at h;·rename_i g2;rw[if_pos g2];dsimp only;omega
   ·rename_i g2;rw[if_neg g2];split at h;·simp at h
    ·rename_i G;rw[if_neg G];exact xB s f (i+1) (by omega) (by omega) h
theorem DX(s:ByteArray)(h1:1<=s.size)(am:eI (bt s 0)=true)(h:(iM s).2.2=0):1<=(iM s).2.1/\(iM s).2.1<=(s.size:Int):=by
 have hp:1<=di cn s 0:=xA h1 (by unfold cn;rw[am];rfl);have hn:=pP cn s 0;have hm:=pP cn (s.extract (di cn s 0+1) s.size) 0;rw[extract_size]at hm;unfold iM at h⊢;dsimp only at h⊢;generalize di cn s 0=n at*;generalize di cn (s.extract (n+1) s.size) 0=m at*;by_cases ak:n+1<s.size;·generalize decide (n+1<s.size)=b1 at*;generalize fc (bt s 0)=O at*;generalize kW (s.extract 0 n)=rb at*;generalize(bt s n==46)=b2 at*;generalize eI (bt s (n+1))=b3 at*;generalize decide (24<n)=J at*;generalize fU (bt s 0)=G at*;generalize decide (24<m)=ab at*;generalize kW (s.extract (n+1) (n+1+m))=aj at*;generalize fU (bt s (n+1))=Y at*;cases O<;>cases rb<;>cases b1<;>cases b2<;>cases b3<;>cases J<;>cases G<;>cases ab<;>cases aj<;>cases Y<;>simp only[tD]at h⊢<;>first|omega|(exact absurd h (by decide))
 ·have:decide (n+1<s.size)=false:=by simpa using ak
  rw[this]at h⊢;generalize fc (bt s 0)=O at*;generalize kW (s.extract 0 n)=rb at*;generalize(bt s n==46)=b2 at*;generalize eI (bt s (n+1))=b3 at*;generalize decide (24<n)=J at*;generalize fU (bt s 0)=G at*;generalize decide (24<m)=ab at*;generalize kW (s.extract (n+1) (n+1+m))=aj at*;generalize fU (bt s (n+1))=Y at*;cases O<;>cases rb<;>cases b2<;>cases b3<;>cases J<;>cases G<;>simp only[tD]at h⊢<;>first|omega|(exact absurd h (by decide))
theorem DY(s:ByteArray)(h1:1<=s.size)(h:(dO s).2.2=0):1<=(dO s).2.1/\(dO s).2.1<=(s.size:Int):=by
 have hw:eI (bt s 0)=true->(iM s).2.2=0->1<=(iM s).2.1/\(iM s).2.1<=(s.size:Int):=DX s h1;have Y:(lQ s).2=0->1<=(lQ s).1/\(lQ s).1<=(s.size:Int):=xB s (s.size-1) 1 (by omega) (by omega)
 have O:ey (bt s 0)=true->(kU s).2=0->1<=(kU s).1/\(kU s).1<=(s.size:Int):=fun hd he=>by
  have hp:1<=di ey s 0:=xA h1 hd;have hn:=pP ey s 0;unfold kU at he⊢;dsimp only at he⊢;split at he;·simp at he
  ·rename_i g1;rw[if_neg g1];split at he;·simp at he
   ·rename_i g2;rw[if_neg g2];dsimp only;omega
 have h2:decide (1<s.size)=true->(2:Int)<=(s.size:Int):=fun t=>by have:=of_decide_eq_true t;omega
 unfold dO at h⊢;generalize decide (1<s.size)=ab at*;generalize mG (bt s 0)=G at*;generalize eI (bt s 0)=aj at*;generalize ey (bt s 0)=db at*;generalize(bt s 0==34)=ak at*;generalize(bt s 0==61)=eq at*;generalize(bt s 1==61)=J at*;generalize decide (0<=vQ tI.data.toList (bt s 0).toNat.toUInt8)=am at*;generalize iM s=aB at*;generalize kU s=ao at*;generalize lQ s=ax at*;cases G;·simp[tJ]at h
 cases aj
 rotate_left
 ·exact hw rfl h
 cases db
 rotate_left
 ·exact O rfl h
 cases ak
 rotate_left
 ·exact Y h
 cases eq<;>cases ab<;>cases J<;>cases am<;>simp only[tJ]at h⊢<;>first|(have:=h2 rfl;omega)|omega|(exact absurd h (by decide))
theorem Hn(kids G leads:Int)(w:World):Calls ai 135 #[af ae kids,af ae G,af ae leads] w fun e w'=>(∃z,e= .returned (af ae z)/\z=if kids<G then-1 else leads)/\w'=w:=by
 by_cases h:kids<G
 all_goals
  go_in;go_wp2_with fail;go_ret;simp
theorem Ho(k:Int)(n:Nat)(hn:n<=140737488355328)(w:World):Calls ai 96 #[af ae k,af ae n] w fun e w'=>e= .returned (af ae (b9 k n))/\w'=w:=by
 have G:=bA (n:=(n:Int)-2) (by omega);have J:=bA (n:=(n:Int)-1) (by omega);have O:=bA (n:=(n:Int)+3) (by omega);have Y:=bA (n:=(n:Int)+2) (by omega);have ab:=bA (n:=(n:Int)+1) (by omega);go_in;go_wp2_with(go_at_call 135;refine(Hn _ _ _ _).mono ?_;rintro e w1 ⟨⟨z,rfl,hz⟩,rfl⟩)
 all_goals
  go_ret;refine⟨w6 ?_,rfl⟩;clear G J O Y ab;simp only[beq_iff_eq,beq_eq_false_iff_ne,ne_eq]at*;unfold b9;omega
end Go.Proofs.YtdplggpbgommnaaGreatDoor
