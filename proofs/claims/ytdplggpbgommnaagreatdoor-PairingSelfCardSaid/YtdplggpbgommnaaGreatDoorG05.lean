/- The lexer: span, number, quoted. -/
import Derived.Test.YtdplggpbgommnaaGreatDoorG00
open ByteArray renaming mk→qC
open Go.IntKind renaming i64→ae
open Go.Lib renaming hid→aa
open Go.Proofs.Tryz renaming prog→ai
open Go.Value renaming bool→ay,int→af,string→ah
open Nat renaming le_refl→an,lt_or_ge→b7,zero_add→cO,zero_le→aW
set_option maxRecDepth 100000
set_option maxHeartbeats 2000000
namespace Go.Proofs.YtdplggpbgommnaaGreatDoor
open Go.RowKit
theorem xt(w:World)(s:ByteArray)(ao:s.size≤140737488355328):Calls ai 177 #[ah s] w fun e w'=>e= .returned (af ae (di cn s 0))∧w=w':=by
 go_enter Tryz.func177,Tryz.ntmps177;go_wp2_with fail;go_loop[3,4,5,6,7,8,9,10,11,12,13,14,15,16,17,18,19,20,21,22,23,24,25,26,27] (fun i _ _ _ _ _ _ _ _ _ _ _ _ _ _ _ _ _ _ _ _ _ _ _ _=>∃n:Nat,n≤s.size∧i=af ae n∧Hid (∀k,k<n→cn (bt s (0+k))=true)) (fun i _ _ _ _ _ _ _ _ _ _ _ _ _ _ _ _ _ _ _ _ _ _ _ _=>s.size-(intOf i).toNat);case atStart=>exact⟨0,aW _,rfl,fun k G=>by omega⟩
 case round=>
  obtain⟨n,am,rfl,G⟩:=hrel;by_cases O:n<s.size
  ·have ax:(0:Int)≤(n:Int):=by omega
   have aB:(n:Int)<(s.size:Int):=by omega
   have aj:((s[n]'O).toNat:Int)=bt s n:=ei O;have Y:Hid (cn (bt s n)=false→di cn s 0=n):=fun e=>nH (by omega) G.out (fun _=>by rw[cO];exact e)
   have M:Hid (cn (bt s n)=true→∀k,k<n+1→cn (bt s (0+k))=true):=fun e k ak=>by
    rcases b7 k n with h|h;·exact G.out k h
    ·obtain rfl:k=n:=by omega
     rw[cO];exact e
   have A:Hid (cn (bt s n)=(eI (bt s n)||ey (bt s n)||decide (bt s n=95))):=rfl;generalize bt s n=c at*;generalize h1:eI c=b1 at*;generalize h2:ey c=b2 at*;have ab:=aa h1;have ac:=aa h2;clear h1 h2;go_wp2_with fail;refine(tj _ c).mono ?_;rintro e w1 ⟨rfl,rfl⟩;rw[ab.out];cases b1
   ·go_wp2_with fail;refine(q2 _ c).mono ?_;rintro e w1 ⟨rfl,rfl⟩;rw[ac.out];cases b2
    ·by_cases E:c=95
     ·have ad:(c==95)=true:=by simpa using E
      go_wp2_with fail;go_round;case rel=>exact⟨n+1,by omega,by go_num,M.out (by rw[A.out];simp[E])⟩
      case measure=>simp[intOf];omega
     ·have ad:(c==95)=false:=by simpa using E
      go_wp2_with fail;go_ret;exact⟨by rw[Y.out (by rw[A.out];simp[E])];rfl,rfl⟩
    ·go_wp2_with fail;go_round;case rel=>exact⟨n+1,by omega,by go_num,M.out (by rw[A.out];simp)⟩
     case measure=>simp[intOf];omega
   ·go_wp2_with fail;go_round;case rel=>exact⟨n+1,by omega,by go_num,M.out (by rw[A.out];simp)⟩
    case measure=>simp[intOf];omega
  ·go_wp2_with fail;go_ret;exact⟨by rw[nH (n:=n) (by omega) G.out (fun h=>by omega)];rfl,rfl⟩
def kU(s:ByteArray):Int×Int:=
 let n:=di ey s 0
 if 1<n∧bt s 0=48 then(0,2)else if 15<n then(0,3)else(n,0)
theorem DQ(w:World)(s:ByteArray)(aL:s.size≤140737488355328):Calls ai 128 #[ah s] w fun e w'=>e= .returned (.tuple #[af ae (kU s).1,af ae (kU s).2])∧w=w':=by
 go_enter Tryz.func128,Tryz.ntmps128;go_wp2_with fail;go_loop[4,5,6,7,8,9,10,11,12,13,14,15,16] (fun i _ _ _ _ _ _ _ _ _ _ _ _=>∃n:Nat,n≤s.size∧i=af ae n∧Hid (∀k,k<n→ey (bt s (0+k))=true)) (fun i _ _ _ _ _ _ _ _ _ _ _ _=>s.size-(intOf i).toNat);case atStart=>exact⟨0,aW _,rfl,fun k ad=>by omega⟩
 case round=>
  obtain⟨n,aJ,rfl,ad⟩:=hrel;by_cases O:n<s.size∧ey (bt s n)=true
  ·obtain⟨G,A⟩:=O;have ax:(0:Int)≤(n:Int):=by omega
   have aB:(n:Int)<(s.size:Int):=by omega
   have am:((s[n]'G).toNat:Int)=bt s n:=ei G
   have ak:Hid (∀k,k<n+1→ey (bt s (0+k))=true):=fun k aG=>by
    rcases b7 k n with h|h;·exact ad.out k h
    ·obtain rfl:k=n:=by omega
     rw[cO];exact A
   have Y:=aa A;clear A;go_wp2_with fail;refine(q2 _ _).mono ?_;rintro e w1 ⟨rfl,rfl⟩;rw[Y.out];go_wp2_with fail;go_round;case rel=>exact⟨n+1,by omega,by go_num,ak.out⟩
   case measure=>simp[intOf];omega
  ·have aj:di ey s 0=n:=nH (by omega) ad.out (fun h=>by
    rw[cO]at h⊢;cases A:ey (bt s n)with
    |false=>rfl
    |true=>exact absurd ⟨h,A⟩ O)
   have P:Hid (kU s=if 1<n∧bt s 0=48 then(0,2)else if 15<n then(0,3)else((n:Int),0)):=by unfold Hid kU;rw[aj]
   clear aj;by_cases G:n<s.size
   ·have ax:(0:Int)≤(n:Int):=by omega
    have aB:(n:Int)<(s.size:Int):=by omega
    have am:((s[n]'G).toNat:Int)=bt s n:=ei G
    have A:ey (bt s n)=false:=by
     cases A:ey (bt s n)with
     |false=>rfl
     |true=>exact absurd ⟨G,A⟩ O
    have Y:=aa A;clear A O;go_wp2_with fail;refine(q2 _ _).mono ?_;rintro e w1 ⟨rfl,rfl⟩;rw[Y.out];by_cases h1:1<n
    ·have M:0<s.size:=by omega
     have ao:((s[0]'M).toNat:Int)=bt s 0:=ei M;by_cases h2:bt s 0=48
     ·have ab:(bt s 0==48)=true:=by simpa using h2
      go_wp2_with fail;go_ret2;exact⟨by rw[P.out];simp[h1,h2],rfl⟩
     ·have ab:(bt s 0==48)=false:=by simpa using h2
      by_cases E:15<n;·go_wp2_with fail;go_ret2;exact⟨by rw[P.out];simp[h2,E],rfl⟩
      ·have ac:decide (15<n)=false:=by simpa using E
       go_wp2_with fail;go_ret2;exact⟨by rw[P.out];simp[h2,E],rfl⟩
    ·have g1:decide (1<n)=false:=by simpa using h1
     have ac:decide (15<n)=false:=by simp;omega
     go_wp2_with fail;go_ret2;exact⟨by rw[P.out,if_neg (by omega),if_neg (by omega)];rfl,rfl⟩
   ·obtain rfl:n=s.size:=by omega
    clear O;by_cases h1:1<s.size
    ·have M:0<s.size:=by omega
     have ao:((s[0]'M).toNat:Int)=bt s 0:=ei M;by_cases h2:bt s 0=48
     ·have ab:(bt s 0==48)=true:=by simpa using h2
      go_wp2_with fail;go_ret2;exact⟨by rw[P.out];simp[h1,h2],rfl⟩
     ·have ab:(bt s 0==48)=false:=by simpa using h2
      by_cases E:15<s.size;·go_wp2_with fail;go_ret2;exact⟨by rw[P.out];simp[h2,E],rfl⟩
      ·have ac:decide (15<s.size)=false:=by simpa using E
       go_wp2_with fail;go_ret2;exact⟨by rw[P.out];simp[h2,E],rfl⟩
    ·have g1:decide (1<s.size)=false:=by simpa using h1
     have ac:decide (15<s.size)=false:=by simp;omega
     go_wp2_with fail;go_ret2;exact⟨by rw[P.out,if_neg (by omega),if_neg (by omega)];rfl,rfl⟩
def mH(c:Int):Bool:=decide (32≤c)&&decide (c≤126)
theorem tE(w:World)(c:Int):Calls ai 194 #[af .u8 c] w fun e w'=>e= .returned (ay (hR c))∧w=w':=by
 go_enter Tryz.func194,Tryz.ntmps194;go_wp2_with fail;all_goals go_ret
 all_goals exact⟨by simp[hR, *],rfl⟩
theorem tF(w:World)(c:Int):Calls ai 222 #[af .u8 c] w fun e w'=>e= .returned (ay (fU c))∧w=w':=by
 go_enter Tryz.func222,Tryz.ntmps222;go_wp2_with fail;all_goals go_ret
 all_goals exact⟨by simp_all[fU]<;>omega,rfl⟩
theorem kX(w:World)(c:Int):Calls ai 223 #[af .u8 c] w fun e w'=>e= .returned (ay (fc c))∧w=w':=by
 go_enter Tryz.func223,Tryz.ntmps223;go_wp2_with fail;all_goals go_ret
 all_goals exact⟨by simp_all[fc]<;>omega,rfl⟩
theorem tG(w:World)(c:Int):Calls ai 221 #[af .u8 c] w fun e w'=>e= .returned (ay (ey c))∧w=w':=by
 go_enter Tryz.func221,Tryz.ntmps221;go_wp2_with fail;all_goals go_ret
 all_goals exact⟨by simp_all[ey]<;>omega,rfl⟩
theorem xw(w:World)(c:Int):Calls ai 220 #[af .u8 c] w fun e w'=>e= .returned (ay (mH c))∧w=w':=by
 go_enter Tryz.func220,Tryz.ntmps220;go_wp2_with fail;all_goals go_ret
 all_goals exact⟨by simp_all[mH]<;>omega,rfl⟩
theorem tH(w:World)(c:Int):Calls ai 219 #[af .u8 c] w fun e w'=>e= .returned (ay (hR c||mH c))∧w=w':=by
 generalize A:hR c=bl;generalize E:mH c=G;go_enter Tryz.func219,Tryz.ntmps219;go_wp2_with fail;refine(tE _ c).mono ?_;rintro e w1 ⟨rfl,rfl⟩;rw[A];cases bl
 ·go_wp2_with fail;refine(xw _ c).mono ?_;rintro e w1 ⟨rfl,rfl⟩;rw[E];go_wp2_with fail;all_goals go_ret
  all_goals exact⟨by simp,rfl⟩
 ·go_wp2_with fail;all_goals go_ret
  all_goals exact⟨by simp,rfl⟩
theorem xx(w:World)(c:Int):Calls ai 251 #[af .u8 c] w fun e w'=>e= .returned (ay (cn c))∧w=w':=by
 have E:Hid (cn c=(fU c||fc c||ey c||decide (c=95))):=rfl;rw[E.out];generalize Y:fU c=bl;generalize ab:fc c=bu;generalize O:ey c=G;clear E;go_enter Tryz.func251,Tryz.ntmps251;go_wp2_with fail;refine(tF _ c).mono ?_;rintro e w1 ⟨rfl,rfl⟩;rw[Y];cases bl
 ·go_wp2_with fail;refine(kX _ c).mono ?_;rintro e w1 ⟨rfl,rfl⟩;rw[ab];cases bu
  ·go_wp2_with fail;refine(tG _ c).mono ?_;rintro e w1 ⟨rfl,rfl⟩;rw[O];cases G
   ·by_cases A:c=95
    ·have M:(c==95)=true:=by simpa using A
     go_wp2_with fail;all_goals go_ret
     all_goals exact⟨by simp[A],rfl⟩
    ·have M:(c==95)=false:=by simpa using A
     go_wp2_with fail;all_goals go_ret
     all_goals exact⟨by simp[A],rfl⟩
   ·go_wp2_with fail;all_goals go_ret
    all_goals exact⟨by simp,rfl⟩
  ·go_wp2_with fail;all_goals go_ret
   all_goals exact⟨by simp,rfl⟩
 ·go_wp2_with fail;all_goals go_ret
  all_goals exact⟨by simp,rfl⟩
def hD(s:ByteArray)(i:Nat):Nat:=if i<s.size∧eI (bt s i)=true then di cn s i else 0
theorem DT(f:Int→Bool)(s:ByteArray)(i:Nat)(h:i≤s.size):i+di f s i≤s.size:=by unfold di;obtain⟨⟨l⟩⟩:=s;have A:(qC ⟨l⟩).size=l.length:=rfl;rw[A]at h⊢;have:=(List.takeWhile_sublist (fun c:UInt8=>f (c.toNat:Int)) (l:=l.drop i)).length_le;rw[List.length_drop]at this;dsimp only;omega
theorem xy(s:ByteArray)(i:Nat)(h:i≤s.size):i+hD s i≤s.size:=by
 unfold hD;split;·exact DT _ s i h
 ·omega
theorem x1(w:World)(s:ByteArray)(aY:s.size≤140737488355328)(i:Nat)(aB:i≤s.size):Calls ai 239 #[ah s,af ae i] w fun e w'=>e= .returned (af ae (hD s i))∧w=w':=by
 by_cases ab:i<s.size
 ·have aZ:(0:Int)≤(i:Int):=by omega
  have a1:(i:Int)<(s.size:Int):=by omega
  have aS:decide ((s.size:Int)≤(i:Int))=false:=decide_eq_false (by omega);have aT:decide (s.size≤i)=false:=decide_eq_false (by omega);have ax:((s[i]'ab).toNat:Int)=bt s i:=ei ab;have am:Hid (eI (bt s i)=false→hD s i=0):=fun e=>by unfold hD;rw[if_neg (by rw[e];simp)]
  have Y:Hid (eI (bt s i)=true→hD s i=di cn s i):=fun e=>by unfold hD;rw[if_pos ⟨ab,e⟩]
  have E:Hid (eI (bt s i)=(fU (bt s i)||fc (bt s i))):=rfl;generalize aG:fU (bt s i)=bl at*;generalize aJ:fc (bt s i)=bu at*;have aL:=aa aG;have aM:=aa aJ;clear aG aJ;go_enter Tryz.func239,Tryz.ntmps239;go_wp2_with fail;refine(tF _ _).mono ?_;rintro e w1 ⟨rfl,rfl⟩;rw[aL.out];cases bl
  ·go_wp2_with fail;refine(kX _ _).mono ?_;rintro e w1 ⟨rfl,rfl⟩;rw[aM.out];cases bu;·have R:Hid (hD s i=0):=am.out (by rw[E.out];rfl);go_wp2_with fail;go_ret;exact⟨by rw[R.out];rfl,rfl⟩
   ·go_wp2_with fail;have R:Hid (hD s i=di cn s i):=Y.out (by rw[E.out];rfl);clear ax am Y E;go_loop[5,25,26,27,28,29,30,31,32,33,34,35,36] (fun q _ _ _ _ _ _ _ _ _ _ _ _=>∃n:Nat,i≤n∧n≤s.size∧q=af ae n∧Hid (∀k,k<n-i→cn (bt s (i+k))=true)) (fun q _ _ _ _ _ _ _ _ _ _ _ _=>s.size-(intOf q).toNat);case atStart=>exact⟨i,an _,aB,rfl,fun k A=>by omega⟩
    case round=>
     obtain⟨n,aO,aQ,rfl,A⟩:=hrel;by_cases G:n<s.size
     ·have aV:(0:Int)≤(n:Int):=by omega
      have aX:(n:Int)<(s.size:Int):=by omega
      have aN:((s[n]'G).toNat:Int)=bt s n:=ei G;have O:i+(n-i)=n:=by omega
      have ad:Hid (cn (bt s n)=false→di cn s i=n-i):=fun e=>nH (by omega) A.out (fun _=>by rw[O];exact e)
      have ak:Hid (cn (bt s n)=true→∀k,k<n+1-i→cn (bt s (i+k))=true):=fun e k aP=>by
       rcases b7 k (n-i)with h|h;·exact A.out k h
       ·obtain rfl:k=n-i:=by omega
        rw[O];exact e
      generalize M:cn (bt s n)=ao at*;have aj:=aa M;clear M A;go_wp2_with fail;refine(xx _ _).mono ?_;rintro e w1 ⟨rfl,rfl⟩;rw[aj.out];cases ao
      ·have w2:ae.wrap ((n:Int)-(i:Int))=((n-i:Nat):Int):=by rw[bA (by omega)];omega
       go_wp2_with fail;go_ret;exact⟨by rw[R.out,ad.out (by trivial)];rfl,rfl⟩
      ·go_wp2_with fail;go_round;case rel=>exact⟨n+1,by omega,by omega,by go_num,ak.out (by trivial)⟩
       case measure=>simp[intOf];omega
     ·obtain rfl:n=s.size:=by omega
      have ac:Hid (di cn s i=s.size-i):=nH (by omega) A.out (fun h=>by omega);have w2:ae.wrap ((s.size:Int)-(i:Int))=((s.size-i:Nat):Int):=by rw[bA (by omega)];omega
      clear A;go_wp2_with fail;go_ret;exact⟨by rw[R.out,ac.out];rfl,rfl⟩
  ·go_wp2_with fail;have R:Hid (hD s i=di cn s i):=Y.out (by rw[E.out];rfl);clear ax am Y E;go_loop[5,25,26,27,28,29,30,31,32,33,34,35,36] (fun q _ _ _ _ _ _ _ _ _ _ _ _=>∃n:Nat,i≤n∧n≤s.size∧q=af ae n∧Hid (∀k,k<n-i→cn (bt s (i+k))=true)) (fun q _ _ _ _ _ _ _ _ _ _ _ _=>s.size-(intOf q).toNat);case atStart=>exact⟨i,an _,aB,rfl,fun k A=>by omega⟩
   case round=>
    obtain⟨n,aO,aQ,rfl,A⟩:=hrel;by_cases G:n<s.size
    ·have aV:(0:Int)≤(n:Int):=by omega
     have aX:(n:Int)<(s.size:Int):=by omega
     have aN:((s[n]'G).toNat:Int)=bt s n:=ei G;have O:i+(n-i)=n:=by omega
     have ad:Hid (cn (bt s n)=false→di cn s i=n-i):=fun e=>nH (by omega) A.out (fun _=>by rw[O];exact e)
     have ak:Hid (cn (bt s n)=true→∀k,k<n+1-i→cn (bt s (i+k))=true):=fun e k aP=>by
      rcases b7 k (n-i)with h|h;·exact A.out k h
      ·obtain rfl:k=n-i:=by omega
       rw[O];exact e
     generalize M:cn (bt s n)=ao at*;have aj:=aa M;clear M A;go_wp2_with fail;refine(xx _ _).mono ?_;rintro e w1 ⟨rfl,rfl⟩;rw[aj.out];cases ao
     ·have w2:ae.wrap ((n:Int)-(i:Int))=((n-i:Nat):Int):=by rw[bA (by omega)];omega
      go_wp2_with fail;go_ret;exact⟨by rw[R.out,ad.out (by trivial)];rfl,rfl⟩
     ·go_wp2_with fail;go_round;case rel=>exact⟨n+1,by omega,by omega,by go_num,ak.out (by trivial)⟩
      case measure=>simp[intOf];omega
    ·obtain rfl:n=s.size:=by omega
     have ac:Hid (di cn s i=s.size-i):=nH (by omega) A.out (fun h=>by omega);have w2:ae.wrap ((s.size:Int)-(i:Int))=((s.size-i:Nat):Int):=by rw[bA (by omega)];omega
     clear A;go_wp2_with fail;go_ret;exact⟨by rw[R.out,ac.out];rfl,rfl⟩
 ·have R:Hid (hD s i=0):=by unfold Hid hD;rw[if_neg fun e=>ab e.1]
  have aS:decide ((s.size:Int)≤(i:Int))=true:=decide_eq_true (by omega);have aT:decide (s.size≤i)=true:=decide_eq_true (by omega);go_enter Tryz.func239,Tryz.ntmps239;go_wp2_with fail;go_ret;exact⟨by rw[R.out];rfl,rfl⟩
theorem mN(w:World)(s:ByteArray):Calls ai 240 #[ah s] w fun e w'=>∃b,e= .returned (ay b)∧w=w':=by
 go_enter Tryz.func240,Tryz.ntmps240;go_wp2_with fail;all_goals go_ret
 all_goals exact⟨_,rfl,rfl⟩
theorem EF(w:World)(s:ByteArray)(O:s.size≤140737488355328)(i:Nat)(A:i<s.size):Calls ai 225 #[ah s,af ae i] w fun e w'=>∃n:Nat,e= .returned (af ae n)∧i+n≤s.size∧w=w':=by
 have Y:(0:Int)≤(i:Int):=by omega
 have ab:(i:Int)<(s.size:Int):=by omega
 have G:((s[i]'A).toNat:Int)=bt s i:=ei A;have w1:ae.wrap ((i:Int)+1)=((i+1:Nat):Int):=by rw[bA (by omega)];omega
 by_cases h1:i+1<s.size
 ·have ac:(0:Int)≤(i:Int)+1:=by omega
  have ad:(i:Int)+1<(s.size:Int):=by omega
  have E:decide (i+1<s.size)=true:=decide_eq_true h1;have M:((s[i+1]'h1).toNat:Int)=bt s (i+1):=ei h1;go_enter Tryz.func225,Tryz.ntmps225;go_wp2_with fail;all_goals go_ret
  all_goals first
   |exact⟨2,rfl,by omega,rfl⟩
   |exact⟨1,rfl,by omega,rfl⟩
   |exact⟨0,rfl,by omega,rfl⟩
 ·have E:decide (i+1<s.size)=false:=decide_eq_false h1;have aj:decide ((i:Int)+1<(s.size:Int))=false:=decide_eq_false (by omega);go_enter Tryz.func225,Tryz.ntmps225;go_wp2_with fail;all_goals go_ret
  all_goals first
   |exact⟨1,rfl,by omega,rfl⟩
   |exact⟨0,rfl,by omega,rfl⟩
end Go.Proofs.YtdplggpbgommnaaGreatDoor
