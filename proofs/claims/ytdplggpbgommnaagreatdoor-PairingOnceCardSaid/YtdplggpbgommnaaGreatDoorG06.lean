/- The lexer: span, number, quoted. -/
import Derived.Test.YtdplggpbgommnaaGreatDoorG01
open ByteArray renaming mk->qC
open Go renaming bodyPost_ret->aF,results->aH
open Go.IntKind renaming i64->ae
open Go.Lib renaming hid->aa
open Go.Proofs.Tryz renaming prog->ai,results224->eh
open Go.Value renaming agg->aq,bool->ay,int->af,string->ah
open Nat renaming le_refl->kI,lt_or_ge->b7,zero_add->cO,zero_le->aW
set_option maxRecDepth 100000
set_option maxHeartbeats 4000000
namespace Go.Proofs.YtdplggpbgommnaaGreatDoor
open Go.RowKit
theorem xt(w:World)(s:ByteArray)(hs:s.size<=140737488355328):Calls ai 177 #[ah s] w fun e w'=>e= .returned (af ae (di cn s 0))/\w=w':=by
 go_in;go_wp2_with fail;go_loop[3] (fun i=>∃n:Nat,n<=s.size/\i=af ae n/\Hid (∀k,k<n->cn (bt s (0+k))=true)) (fun i=>s.size-(intOf i).toNat);case atStart=>exact⟨0,aW _,rfl,fun k O=>by omega⟩
 case round=>
  obtain⟨n,hn,rfl,O⟩:=hrel;by_cases ab:n<s.size
  ·have aB:(0:Int)<=(n:Int):=by omega
   have aG:(n:Int)<(s.size:Int):=by omega
   have ao:((s[n]'ab).toNat:Int)=bt s n:=ei ab;have END:Hid (cn (bt s n)=false->di cn s 0=n):=fun e=>nH (by omega) O.out (fun _=>by rw[cO];exact e)
   have Y:Hid (cn (bt s n)=true->∀k,k<n+1->cn (bt s (0+k))=true):=fun e k ax=>by
    rcases b7 k n with h|h;·exact O.out k h
    ·obtain rfl:k=n:=by omega
     rw[cO];exact e
   have G:Hid (cn (bt s n)=(eI (bt s n)||ey (bt s n)||decide (bt s n=95))):=rfl;generalize bt s n=c at*;generalize h1:eI c=b1 at*;generalize h2:ey c=b2 at*;have aj:=aa h1;have ak:=aa h2;clear h1 h2;go_wp2_with fail;refine(tj _ c).mono ?_;rintro e w1 ⟨rfl,rfl⟩;rw[aj.out];cases b1
   ·go_wp2_with fail;refine(q2 _ c).mono ?_;rintro e w1 ⟨rfl,rfl⟩;rw[ak.out];cases b2
    ·by_cases J:c=95
     ·have am:(c==95)=true:=by simpa using J
      go_wp2_with fail;go_round;case rel=>exact⟨n+1,by omega,by go_num,Y.out (by rw[G.out];simp[J])⟩
      case measure=>simp[intOf];omega
     ·have am:(c==95)=false:=by simpa using J
      go_wp2_with fail;go_ret;exact⟨by rw[END.out (by rw[G.out];simp[J])];rfl,rfl⟩
    ·go_wp2_with fail;go_round;case rel=>exact⟨n+1,by omega,by go_num,Y.out (by rw[G.out];simp)⟩
     case measure=>simp[intOf];omega
   ·go_wp2_with fail;go_round;case rel=>exact⟨n+1,by omega,by go_num,Y.out (by rw[G.out];simp)⟩
    case measure=>simp[intOf];omega
  ·go_wp2_with fail;go_ret;exact⟨by rw[nH (n:=n) (by omega) O.out (fun h=>by omega)];rfl,rfl⟩
def kU(s:ByteArray):Int×Int:=
 let n:=di ey s 0
 if 1<n/\bt s 0=48 then(0,2)else if 15<n then(0,3)else(n,0)
theorem DQ(w:World)(s:ByteArray)(hs:s.size<=140737488355328):Calls ai 128 #[ah s] w fun e w'=>e= .returned (.tuple #[af ae (kU s).1,af ae (kU s).2])/\w=w':=by
 go_in;go_wp2_with fail;go_loop[4] (fun i=>∃n:Nat,n<=s.size/\i=af ae n/\Hid (∀k,k<n->ey (bt s (0+k))=true)) (fun i=>s.size-(intOf i).toNat);case atStart=>exact⟨0,aW _,rfl,fun k aj=>by omega⟩
 case round=>
  obtain⟨n,hn,rfl,aj⟩:=hrel;by_cases hc:n<s.size/\ey (bt s n)=true
  ·obtain⟨J,hd⟩:=hc;have ax:(0:Int)<=(n:Int):=by omega
   have aB:(n:Int)<(s.size:Int):=by omega
   have am:((s[n]'J).toNat:Int)=bt s n:=ei J
   have ak:Hid (∀k,k<n+1->ey (bt s (0+k))=true):=fun k aG=>by
    rcases b7 k n with h|h;·exact aj.out k h
    ·obtain rfl:k=n:=by omega
     rw[cO];exact hd
   have Y:=aa hd;clear hd;go_wp2_with fail;refine(q2 _ _).mono ?_;rintro e w1 ⟨rfl,rfl⟩;rw[Y.out];go_wp2_with fail;go_round;case rel=>exact⟨n+1,by omega,by go_num,ak.out⟩
   case measure=>simp[intOf];omega
  ·have hr:di ey s 0=n:=nH (by omega) aj.out (fun h=>by
    rw[cO]at h⊢;cases hd:ey (bt s n)with
    |false=>rfl
    |true=>exact absurd ⟨h,hd⟩ hc)
   have P:Hid (kU s=if 1<n/\bt s 0=48 then(0,2)else if 15<n then(0,3)else((n:Int),0)):=by unfold Hid kU;rw[hr]
   clear hr;by_cases J:n<s.size
   ·have ax:(0:Int)<=(n:Int):=by omega
    have aB:(n:Int)<(s.size:Int):=by omega
    have am:((s[n]'J).toNat:Int)=bt s n:=ei J
    have hd:ey (bt s n)=false:=by
     cases hd:ey (bt s n)with
     |false=>rfl
     |true=>exact absurd ⟨J,hd⟩ hc
    have Y:=aa hd;clear hd hc;go_wp2_with fail;refine(q2 _ _).mono ?_;rintro e w1 ⟨rfl,rfl⟩;rw[Y.out];by_cases h1:1<n
    ·have O:0<s.size:=by omega
     have ao:((s[0]'O).toNat:Int)=bt s 0:=ei O;by_cases h2:bt s 0=48
     ·have g2:(bt s 0==48)=true:=by simpa using h2
      go_wp2_with fail;go_ret2;exact⟨by rw[P.out];simp[h1,h2],rfl⟩
     ·have g2:(bt s 0==48)=false:=by simpa using h2
      by_cases G:15<n;·go_wp2_with fail;go_ret2;exact⟨by rw[P.out];simp[h2,G],rfl⟩
      ·have ab:decide (15<n)=false:=by simpa using G
       go_wp2_with fail;go_ret2;exact⟨by rw[P.out];simp[h2,G],rfl⟩
    ·have g1:decide (1<n)=false:=by simpa using h1
     have ab:decide (15<n)=false:=by simp;omega
     go_wp2_with fail;go_ret2;exact⟨by rw[P.out,if_neg (by omega),if_neg (by omega)];rfl,rfl⟩
   ·obtain rfl:n=s.size:=by omega
    clear hc;by_cases h1:1<s.size
    ·have O:0<s.size:=by omega
     have ao:((s[0]'O).toNat:Int)=bt s 0:=ei O;by_cases h2:bt s 0=48
     ·have g2:(bt s 0==48)=true:=by simpa using h2
      go_wp2_with fail;go_ret2;exact⟨by rw[P.out];simp[h1,h2],rfl⟩
     ·have g2:(bt s 0==48)=false:=by simpa using h2
      by_cases G:15<s.size;·go_wp2_with fail;go_ret2;exact⟨by rw[P.out];simp[h2,G],rfl⟩
      ·have ab:decide (15<s.size)=false:=by simpa using G
       go_wp2_with fail;go_ret2;exact⟨by rw[P.out];simp[h2,G],rfl⟩
    ·have g1:decide (1<s.size)=false:=by simpa using h1
     have ab:decide (15<s.size)=false:=by simp;omega
     go_wp2_with fail;go_ret2;exact⟨by rw[P.out,if_neg (by omega),if_neg (by omega)];rfl,rfl⟩
def mH(c:Int):Bool:=decide (32<=c)&&decide (c<=126)
theorem tE(w:World)(c:Int):Calls ai 194 #[af .u8 c] w fun e w'=>e= .returned (ay (Kh c))/\w=w':=by
 go_in;go_wp2_with fail;all_goals go_ret
 all_goals exact⟨by simp[Kh, *],rfl⟩
theorem tF(w:World)(c:Int):Calls ai 222 #[af .u8 c] w fun e w'=>e= .returned (ay (fU c))/\w=w':=by
 go_in;go_wp2_with fail;all_goals go_ret
 all_goals exact⟨by simp_all[fU]<;>omega,rfl⟩
theorem kX(w:World)(c:Int):Calls ai 223 #[af .u8 c] w fun e w'=>e= .returned (ay (fc c))/\w=w':=by
 go_in;go_wp2_with fail;all_goals go_ret
 all_goals exact⟨by simp_all[fc]<;>omega,rfl⟩
theorem tG(w:World)(c:Int):Calls ai 221 #[af .u8 c] w fun e w'=>e= .returned (ay (ey c))/\w=w':=by
 go_in;go_wp2_with fail;all_goals go_ret
 all_goals exact⟨by simp_all[ey]<;>omega,rfl⟩
theorem xw(w:World)(c:Int):Calls ai 220 #[af .u8 c] w fun e w'=>e= .returned (ay (mH c))/\w=w':=by
 go_in;go_wp2_with fail;all_goals go_ret
 all_goals exact⟨by simp_all[mH]<;>omega,rfl⟩
theorem tH(w:World)(c:Int):Calls ai 219 #[af .u8 c] w fun e w'=>e= .returned (ay (Kh c||mH c))/\w=w':=by
 generalize G:Kh c=bl;generalize hp:mH c=J;go_in;go_wp2_with fail;refine(tE _ c).mono ?_;rintro e w1 ⟨rfl,rfl⟩;rw[G];cases bl
 ·go_wp2_with fail;refine(xw _ c).mono ?_;rintro e w1 ⟨rfl,rfl⟩;rw[hp];go_wp2_with fail;all_goals go_ret
  all_goals exact⟨by simp,rfl⟩
 ·go_wp2_with fail;all_goals go_ret
  all_goals exact⟨by simp,rfl⟩
theorem xx(w:World)(c:Int):Calls ai 251 #[af .u8 c] w fun e w'=>e= .returned (ay (cn c))/\w=w':=by
 have E:Hid (cn c=(fU c||fc c||ey c||decide (c=95))):=rfl;rw[E.out];generalize Y:fU c=bl;generalize ab:fc c=bu;generalize hd:ey c=J;clear E;go_in;go_wp2_with fail;refine(tF _ c).mono ?_;rintro e w1 ⟨rfl,rfl⟩;rw[Y];cases bl
 ·go_wp2_with fail;refine(kX _ c).mono ?_;rintro e w1 ⟨rfl,rfl⟩;rw[ab];cases bu
  ·go_wp2_with fail;refine(tG _ c).mono ?_;rintro e w1 ⟨rfl,rfl⟩;rw[hd];cases J
   ·by_cases G:c=95
    ·have O:(c==95)=true:=by simpa using G
     go_wp2_with fail;all_goals go_ret
     all_goals exact⟨by simp[G],rfl⟩
    ·have O:(c==95)=false:=by simpa using G
     go_wp2_with fail;all_goals go_ret
     all_goals exact⟨by simp[G],rfl⟩
   ·go_wp2_with fail;all_goals go_ret
    all_goals exact⟨by simp,rfl⟩
  ·go_wp2_with fail;all_goals go_ret
   all_goals exact⟨by simp,rfl⟩
 ·go_wp2_with fail;all_goals go_ret
  all_goals exact⟨by simp,rfl⟩
def hD(s:ByteArray)(i:Nat):Nat:=if i<s.size/\eI (bt s i)=true then di cn s i else 0
theorem DT(f:Int->Bool)(s:ByteArray)(i:Nat)(h:i<=s.size):i+di f s i<=s.size:=by unfold di;obtain⟨⟨l⟩⟩:=s;have hs:(qC ⟨l⟩).size=l.length:=rfl;rw[hs]at h⊢;have:=(List.takeWhile_sublist (fun c:UInt8=>f (c.toNat:Int)) (l:=l.drop i)).length_le;rw[List.length_drop]at this;dsimp only;omega
theorem xy(s:ByteArray)(i:Nat)(h:i<=s.size):i+hD s i<=s.size:=by
 unfold hD;split;·exact DT _ s i h
 ·omega
theorem x1(w:World)(s:ByteArray)(hs:s.size<=140737488355328)(i:Nat)(aG:i<=s.size):Calls ai 239 #[ah s,af ae i] w fun e w'=>e= .returned (af ae (hD s i))/\w=w':=by
 by_cases aj:i<s.size
 ·have aY:(0:Int)<=(i:Int):=by omega
  have aZ:(i:Int)<(s.size:Int):=by omega
  have aS:decide ((s.size:Int)<=(i:Int))=false:=decide_eq_false (by omega);have aT:decide (s.size<=i)=false:=decide_eq_false (by omega);have aB:((s[i]'aj).toNat:Int)=bt s i:=ei aj;have ao:Hid (eI (bt s i)=false->hD s i=0):=fun e=>by unfold hD;rw[if_neg (by rw[e];simp)]
  have ab:Hid (eI (bt s i)=true->hD s i=di cn s i):=fun e=>by unfold hD;rw[if_pos ⟨aj,e⟩]
  have J:Hid (eI (bt s i)=(fU (bt s i)||fc (bt s i))):=rfl;generalize aJ:fU (bt s i)=bl at*;generalize aL:fc (bt s i)=bu at*;have aM:=aa aJ;have aN:=aa aL;clear aJ aL;go_in;go_wp2_with fail;refine(tF _ _).mono ?_;rintro e w1 ⟨rfl,rfl⟩;rw[aM.out];cases bl
  ·go_wp2_with fail;refine(kX _ _).mono ?_;rintro e w1 ⟨rfl,rfl⟩;rw[aN.out];cases bu;·have R:Hid (hD s i=0):=ao.out (by rw[J.out];rfl);go_wp2_with fail;go_ret;exact⟨by rw[R.out];rfl,rfl⟩
   ·go_wp2_with fail;have R:Hid (hD s i=di cn s i):=ab.out (by rw[J.out];rfl);clear aB ao ab J;go_loop[5] (fun q=>∃n:Nat,i<=n/\n<=s.size/\q=af ae n/\Hid (∀k,k<n-i->cn (bt s (i+k))=true)) (fun q=>s.size-(intOf q).toNat);case atStart=>exact⟨i,kI _,aG,rfl,fun k G=>by omega⟩
    case round=>
     obtain⟨n,aP,hn,rfl,G⟩:=hrel;by_cases O:n<s.size
     ·have aV:(0:Int)<=(n:Int):=by omega
      have aX:(n:Int)<(s.size:Int):=by omega
      have aO:((s[n]'O).toNat:Int)=bt s n:=ei O;have Y:i+(n-i)=n:=by omega
      have END:Hid (cn (bt s n)=false->di cn s i=n-i):=fun e=>nH (by omega) G.out (fun _=>by rw[Y];exact e)
      have am:Hid (cn (bt s n)=true->∀k,k<n+1-i->cn (bt s (i+k))=true):=fun e k aQ=>by
       rcases b7 k (n-i)with h|h;·exact G.out k h
       ·obtain rfl:k=n-i:=by omega
        rw[Y];exact e
      generalize hw:cn (bt s n)=ax at*;have ak:=aa hw;clear hw G;go_wp2_with fail;refine(xx _ _).mono ?_;rintro e w1 ⟨rfl,rfl⟩;rw[ak.out];cases ax
      ·have w2:ae.wrap ((n:Int)-(i:Int))=((n-i:Nat):Int):=by rw[bA (by omega)];omega
       go_wp2_with fail;go_ret;exact⟨by rw[R.out,END.out (by trivial)];rfl,rfl⟩
      ·go_wp2_with fail;go_round;case rel=>exact⟨n+1,by omega,by omega,by go_num,am.out (by trivial)⟩
       case measure=>simp[intOf];omega
     ·obtain rfl:n=s.size:=by omega
      have E:Hid (di cn s i=s.size-i):=nH (by omega) G.out (fun h=>by omega);have w2:ae.wrap ((s.size:Int)-(i:Int))=((s.size-i:Nat):Int):=by rw[bA (by omega)];omega
      clear G;go_wp2_with fail;go_ret;exact⟨by rw[R.out,E.out];rfl,rfl⟩
  ·go_wp2_with fail;have R:Hid (hD s i=di cn s i):=ab.out (by rw[J.out];rfl);clear aB ao ab J;go_loop[5] (fun q=>∃n:Nat,i<=n/\n<=s.size/\q=af ae n/\Hid (∀k,k<n-i->cn (bt s (i+k))=true)) (fun q=>s.size-(intOf q).toNat);case atStart=>exact⟨i,kI _,aG,rfl,fun k G=>by omega⟩
   case round=>
    obtain⟨n,aP,hn,rfl,G⟩:=hrel;by_cases O:n<s.size
    ·have aV:(0:Int)<=(n:Int):=by omega
     have aX:(n:Int)<(s.size:Int):=by omega
     have aO:((s[n]'O).toNat:Int)=bt s n:=ei O;have Y:i+(n-i)=n:=by omega
     have END:Hid (cn (bt s n)=false->di cn s i=n-i):=fun e=>nH (by omega) G.out (fun _=>by rw[Y];exact e)
     have am:Hid (cn (bt s n)=true->∀k,k<n+1-i->cn (bt s (i+k))=true):=fun e k aQ=>by
      rcases b7 k (n-i)with h|h;·exact G.out k h
      ·obtain rfl:k=n-i:=by omega
       rw[Y];exact e
     generalize hw:cn (bt s n)=ax at*;have ak:=aa hw;clear hw G;go_wp2_with fail;refine(xx _ _).mono ?_;rintro e w1 ⟨rfl,rfl⟩;rw[ak.out];cases ax
     ·have w2:ae.wrap ((n:Int)-(i:Int))=((n-i:Nat):Int):=by rw[bA (by omega)];omega
      go_wp2_with fail;go_ret;exact⟨by rw[R.out,END.out (by trivial)];rfl,rfl⟩
     ·go_wp2_with fail;go_round;case rel=>exact⟨n+1,by omega,by omega,by go_num,am.out (by trivial)⟩
      case measure=>simp[intOf];omega
    ·obtain rfl:n=s.size:=by omega
     have E:Hid (di cn s i=s.size-i):=nH (by omega) G.out (fun h=>by omega);have w2:ae.wrap ((s.size:Int)-(i:Int))=((s.size-i:Nat):Int):=by rw[bA (by omega)];omega
     clear G;go_wp2_with fail;go_ret;exact⟨by rw[R.out,E.out];rfl,rfl⟩
 ·have R:Hid (hD s i=0):=by unfold Hid hD;rw[if_neg fun e=>aj e.1]
  have aS:decide ((s.size:Int)<=(i:Int))=true:=decide_eq_true (by omega);have aT:decide (s.size<=i)=true:=decide_eq_true (by omega);go_in;go_wp2_with fail;go_ret;exact⟨by rw[R.out];rfl,rfl⟩
theorem mN(w:World)(s:ByteArray):Calls ai 240 #[ah s] w fun e w'=>∃b,e= .returned (ay b)/\w=w':=by
 go_in;go_wp2_with fail;all_goals go_ret
 all_goals exact⟨_,rfl,rfl⟩
theorem EF(w:World)(s:ByteArray)(hs:s.size<=140737488355328)(i:Nat)(G:i<s.size):Calls ai 225 #[ah s,af ae i] w fun e w'=>∃n:Nat,e= .returned (af ae n)/\i+n<=s.size/\w=w':=by
 have ab:(0:Int)<=(i:Int):=by omega
 have aj:(i:Int)<(s.size:Int):=by omega
 have O:((s[i]'G).toNat:Int)=bt s i:=ei G;have w1:ae.wrap ((i:Int)+1)=((i+1:Nat):Int):=by rw[bA (by omega)];omega
 by_cases h1:i+1<s.size
 ·have ak:(0:Int)<=(i:Int)+1:=by omega
  have am:(i:Int)+1<(s.size:Int):=by omega
  have J:decide (i+1<s.size)=true:=decide_eq_true h1;have Y:((s[i+1]'h1).toNat:Int)=bt s (i+1):=ei h1;go_in;go_wp2_with fail;all_goals go_ret
  all_goals first
   |exact⟨2,rfl,by omega,rfl⟩
   |exact⟨1,rfl,by omega,rfl⟩
   |exact⟨0,rfl,by omega,rfl⟩
 ·have J:decide (i+1<s.size)=false:=decide_eq_false h1;have ao:decide ((i:Int)+1<(s.size:Int))=false:=decide_eq_false (by omega);go_in;go_wp2_with fail;all_goals go_ret
  all_goals first
   |exact⟨1,rfl,by omega,rfl⟩
   |exact⟨0,rfl,by omega,rfl⟩
theorem Jv(f:Int->Bool)(s:ByteArray)(i:Nat)(h:i<s.size)(hf:f (bt s i)=true):0<di f s i:=by
 unfold di;obtain⟨⟨l⟩⟩:=s;have G:i<l.length:=h;unfold bt at hf;dsimp only at hf⊢;have hc:l.getD i 0=l[i]:=by rw[List.getD_eq_getElem?_getD,List.getElem?_eq_getElem G];rfl
 rw[hc]at hf;rw[List.drop_eq_getElem_cons G,List.takeWhile_cons,hf];simp
theorem Jw(s:ByteArray)(i:Nat)(h:i<s.size)(G:eI (bt s i)=true):0<hD s i:=by unfold hD;rw[if_pos ⟨h,G⟩];exact Jv _ s i h (by unfold cn;rw[G];rfl)
theorem Bk(w:World)(s:ByteArray)(hs:s.size<=140737488355328)(z:Int)(i:Nat)(hz:z=(i:Int))(G:i<=s.size):Calls ai 239 #[ah s,af ae z] w fun e w'=>e= .returned (af ae (hD s i))/\w=w':=by subst hz;exact x1 w s hs i G
def r9(s:ByteArray)(i:Nat)(e:Ending):Prop:=∃(l:Nat) (k er a:Int),e= .returned (aq #[af ae l,af ae k,af ae er,af ae a])/\(er=0->0<l/\i+l<=s.size)
theorem fE(s:ByteArray)(i:Nat)(G a:Int)(h:G≠0):r9 s i (.returned (aq #[af ae 0,af ae 0,af ae G,af ae a])):=⟨0,0,G,a,rfl,fun e=>absurd e h⟩
theorem e8(s:ByteArray)(i:Nat)(z:Int)(l:Nat)(k:Int)(hz:z=(l:Int))(h1:0<l)(h2:i+l<=s.size):r9 s i (.returned (aq #[af ae z,af ae k,af ae 0,af ae 0])):=by subst hz;exact⟨l,k,0,0,rfl,fun _=>⟨h1,h2⟩⟩
theorem AB(w:World)(s:ByteArray)(hs:s.size<=140737488355328)(i:Nat)(am:i<s.size)(aB:eI (bt s i)=true):Calls ai 224 #[ah s,af ae i] w fun e w'=>r9 s i e/\Below w.heap.size w w':=by
 have h1:=xy s i (by omega);have h2:=Jw s i am aB;have aS:((s[i]'am).toNat:Int)=bt s i:=ei am;obtain⟨n,hn⟩:∃n,hD s i=n:=⟨_,rfl⟩
 rw[hn]at h1 h2;have aL:=aa hn;clear hn aB;have a4:(0:Int)<=(i:Int):=by omega
 have a5:(i:Int)<(s.size:Int):=by omega
 have a8:(i:Int)+(n:Int)<=(s.size:Int):=by omega
 have w1:ae.wrap ((i:Int)+(n:Int))=(i:Int)+(n:Int):=bA (by omega);go_in;go_wp2_with fail;have ak:Hid (Has (w.alloc (.cells #[af ae 0,af ae 0,af ae 0,af ae 0] 253)) w.heap.size #[af ae 0,af ae 0,af ae 0,af ae 0]):=Has.new _ _ _;have B0:Hid (Below w.heap.size w (w.alloc (.cells #[af ae 0,af ae 0,af ae 0,af ae 0] 253))):=(Below.refl _ _).alloc (kI _) _;generalize w.alloc (.cells #[af ae 0,af ae 0,af ae 0,af ae 0] 253)=w0 at ak B0⊢;have a3:=ak.out.lt;obtain⟨⟨G,k1,k2,k3⟩,a9,ba,bd,bg⟩:=ak.out.four;refine(x1 _ s hs i (by omega)).mono ?_;rintro e w2 ⟨rfl,rfl⟩;rw[aL.out];go_wp2_with fail;refine(kX _ _).mono ?_;rintro e w2 ⟨rfl,rfl⟩;obtain⟨aQ,aG⟩:∃b,fc (bt s i)=b:=⟨_,rfl⟩
 rw[aG];clear aG;cases aQ
 ·by_cases ab:24<n
  ·have J:decide ((24:Int)<(n:Int))=true:=by simp;omega
   have O:(24:Int)<(n:Int):=by omega
   go_wp2_with fail;refine aF (v:=aq #[af ae 0,af ae 0,af ae 3,af ae i]) (by simp[aH,eh,go_sem,G,k1,k2,k3]) rfl ?_;exact⟨fE s i _ _ (by decide),B0.out.aM (kI _) _ _ _ _⟩
  ·have J:decide ((24:Int)<(n:Int))=false:=by simp;omega
   have Y:decide (24<n)=false:=by simp;omega
   have O:¬(24:Int)<(n:Int):=by omega
   go_wp2_with fail;refine(mN _ _).mono ?_;rintro e w2 ⟨b,rfl,rfl⟩;cases b
   ·go_wp2_with fail;refine(kX _ _).mono ?_;rintro e w2 ⟨rfl,rfl⟩;generalize fc (bt s i)=u;cases u;·go_wp2_with fail;refine aF (v:=aq #[af ae n,af ae 1,af ae 0,af ae 0]) (by simp[aH,eh,go_sem,G,k1,k2,k3]) rfl ?_;exact⟨e8 s i _ n _ (by first|rfl|omega) (by omega) (by omega),B0.out.aM (kI _) _ _ _ _⟩
    ·go_wp2_with fail;refine aF (v:=aq #[af ae n,af ae 2,af ae 0,af ae 0]) (by simp[aH,eh,go_sem,G,k1,k2,k3]) rfl ?_;exact⟨e8 s i _ n _ (by first|rfl|omega) (by omega) (by omega),B0.out.aM (kI _) _ _ _ _⟩
   ·go_wp2_with fail;refine aF (v:=aq #[af ae n,af ae 7,af ae 0,af ae 0]) (by simp[aH,eh,go_sem,G,k1,k2,k3]) rfl ?_;exact⟨e8 s i _ n _ (by first|rfl|omega) (by omega) (by omega),B0.out.aM (kI _) _ _ _ _⟩
 ·go_wp2_with fail;refine(mN _ _).mono ?_;rintro e w2 ⟨b,rfl,rfl⟩;cases b
  ·by_cases a1:i+n+1<s.size
   ·have aM:(i:Int)+(n:Int)+1<(s.size:Int):=by omega
    have ax:i+n<s.size:=by omega
    have aV:(i:Int)+(n:Int)<(s.size:Int):=by omega
    have aX:(0:Int)<=(i:Int)+(n:Int):=by omega
    have aT:((s[i+n]'ax).toNat:Int)=bt s (i+n):=ei ax;by_cases aj:bt s (i+n)=46
    ·have aN:(bt s (i+n)==46)=true:=by simpa using aj
     clear aj;go_wp2_with fail;refine(Bk _ s hs _ (i+n+1) (by omega) (by omega)).mono ?_;rintro e w2 ⟨rfl,rfl⟩;have aP:=xy s (i+n+1) (by omega);obtain⟨k,ao⟩:∃k,hD s (i+n+1)=k:=⟨_,rfl⟩
     rw[ao]at aP⊢;have aJ:=aa ao;clear ao;by_cases a2:0<k
     ·have aO:(0:Int)<(k:Int):=by omega
      go_wp2_with fail;refine(Bk _ s hs _ (i+n+1) (by omega) (by omega)).mono ?_;rintro e w2 ⟨rfl,rfl⟩;rw[aJ.out];go_wp2_with fail;refine(kX _ _).mono ?_;rintro e w2 ⟨rfl,rfl⟩;generalize fc _=u;cases u
      ·go_wp2_with fail;·refine aF (v:=aq #[af ae 0,af ae 0,af ae 3,af ae i]) (by simp[aH,eh,go_sem,G,k1,k2,k3]) rfl ?_;exact⟨fE s i _ _ (by decide),B0.out.aM (kI _) _ _ _ _⟩
       ·refine(mN _ _).mono ?_;rintro e w2 ⟨b,rfl,rfl⟩;cases b;·go_wp2_with fail;refine aF (v:=aq #[af ae ((n:Int)+1+(k:Int)),af ae 3,af ae 0,af ae 0]) (by simp[aH,eh,go_sem,G,k1,k2,k3]) rfl ?_;exact⟨e8 s i _ (n+1+k) _ (by first|rfl|omega) (by omega) (by omega),B0.out.aM (kI _) _ _ _ _⟩
        ·go_wp2_with fail;refine aF (v:=aq #[af ae 0,af ae 0,af ae 2,af ae i]) (by simp[aH,eh,go_sem,G,k1,k2,k3]) rfl ?_;exact⟨fE s i _ _ (by decide),B0.out.aM (kI _) _ _ _ _⟩
       ·refine aF (v:=aq #[af ae 0,af ae 0,af ae 3,af ae i]) (by simp[aH,eh,go_sem,G,k1,k2,k3]) rfl ?_;exact⟨fE s i _ _ (by decide),B0.out.aM (kI _) _ _ _ _⟩
      ·go_wp2_with fail;·refine aF (v:=aq #[af ae 0,af ae 0,af ae 3,af ae i]) (by simp[aH,eh,go_sem,G,k1,k2,k3]) rfl ?_;exact⟨fE s i _ _ (by decide),B0.out.aM (kI _) _ _ _ _⟩
       ·refine(mN _ _).mono ?_;rintro e w2 ⟨b,rfl,rfl⟩;cases b;·go_wp2_with fail;refine aF (v:=aq #[af ae ((n:Int)+1+(k:Int)),af ae 4,af ae 0,af ae 0]) (by simp[aH,eh,go_sem,G,k1,k2,k3]) rfl ?_;exact⟨e8 s i _ (n+1+k) _ (by first|rfl|omega) (by omega) (by omega),B0.out.aM (kI _) _ _ _ _⟩
        ·go_wp2_with fail;refine aF (v:=aq #[af ae 0,af ae 0,af ae 2,af ae i]) (by simp[aH,eh,go_sem,G,k1,k2,k3]) rfl ?_;exact⟨fE s i _ _ (by decide),B0.out.aM (kI _) _ _ _ _⟩
       ·refine aF (v:=aq #[af ae 0,af ae 0,af ae 3,af ae i]) (by simp[aH,eh,go_sem,G,k1,k2,k3]) rfl ?_;exact⟨fE s i _ _ (by decide),B0.out.aM (kI _) _ _ _ _⟩
     ·have aO:¬(0:Int)<(k:Int):=by omega
      have aY:decide ((0:Int)<(k:Int))=false:=by simp;omega
      by_cases ab:24<n
      ·have J:decide ((24:Int)<(n:Int))=true:=by simp;omega
       have O:(24:Int)<(n:Int):=by omega
       go_wp2_with fail;refine aF (v:=aq #[af ae 0,af ae 0,af ae 3,af ae i]) (by simp[aH,eh,go_sem,G,k1,k2,k3]) rfl ?_;exact⟨fE s i _ _ (by decide),B0.out.aM (kI _) _ _ _ _⟩
      ·have J:decide ((24:Int)<(n:Int))=false:=by simp;omega
       have Y:decide (24<n)=false:=by simp;omega
       have O:¬(24:Int)<(n:Int):=by omega
       go_wp2_with fail;refine(mN _ _).mono ?_;rintro e w2 ⟨b,rfl,rfl⟩;cases b
       ·go_wp2_with fail;refine(kX _ _).mono ?_;rintro e w2 ⟨rfl,rfl⟩;generalize fc (bt s i)=u;cases u;·go_wp2_with fail;refine aF (v:=aq #[af ae n,af ae 1,af ae 0,af ae 0]) (by simp[aH,eh,go_sem,G,k1,k2,k3]) rfl ?_;exact⟨e8 s i _ n _ (by first|rfl|omega) (by omega) (by omega),B0.out.aM (kI _) _ _ _ _⟩
        ·go_wp2_with fail;refine aF (v:=aq #[af ae n,af ae 2,af ae 0,af ae 0]) (by simp[aH,eh,go_sem,G,k1,k2,k3]) rfl ?_;exact⟨e8 s i _ n _ (by first|rfl|omega) (by omega) (by omega),B0.out.aM (kI _) _ _ _ _⟩
       ·go_wp2_with fail;refine aF (v:=aq #[af ae n,af ae 7,af ae 0,af ae 0]) (by simp[aH,eh,go_sem,G,k1,k2,k3]) rfl ?_;exact⟨e8 s i _ n _ (by first|rfl|omega) (by omega) (by omega),B0.out.aM (kI _) _ _ _ _⟩
    ·have aN:(bt s (i+n)==46)=false:=by simpa using aj
     clear aj;by_cases ab:24<n
     ·have J:decide ((24:Int)<(n:Int))=true:=by simp;omega
      have O:(24:Int)<(n:Int):=by omega
      go_wp2_with fail;refine aF (v:=aq #[af ae 0,af ae 0,af ae 3,af ae i]) (by simp[aH,eh,go_sem,G,k1,k2,k3]) rfl ?_;exact⟨fE s i _ _ (by decide),B0.out.aM (kI _) _ _ _ _⟩
     ·have J:decide ((24:Int)<(n:Int))=false:=by simp;omega
      have Y:decide (24<n)=false:=by simp;omega
      have O:¬(24:Int)<(n:Int):=by omega
      go_wp2_with fail;refine(mN _ _).mono ?_;rintro e w2 ⟨b,rfl,rfl⟩;cases b
      ·go_wp2_with fail;refine(kX _ _).mono ?_;rintro e w2 ⟨rfl,rfl⟩;generalize fc (bt s i)=u;cases u;·go_wp2_with fail;refine aF (v:=aq #[af ae n,af ae 1,af ae 0,af ae 0]) (by simp[aH,eh,go_sem,G,k1,k2,k3]) rfl ?_;exact⟨e8 s i _ n _ (by first|rfl|omega) (by omega) (by omega),B0.out.aM (kI _) _ _ _ _⟩
       ·go_wp2_with fail;refine aF (v:=aq #[af ae n,af ae 2,af ae 0,af ae 0]) (by simp[aH,eh,go_sem,G,k1,k2,k3]) rfl ?_;exact⟨e8 s i _ n _ (by first|rfl|omega) (by omega) (by omega),B0.out.aM (kI _) _ _ _ _⟩
      ·go_wp2_with fail;refine aF (v:=aq #[af ae n,af ae 7,af ae 0,af ae 0]) (by simp[aH,eh,go_sem,G,k1,k2,k3]) rfl ?_;exact⟨e8 s i _ n _ (by first|rfl|omega) (by omega) (by omega),B0.out.aM (kI _) _ _ _ _⟩
   ·have aM:decide ((i:Int)+(n:Int)+1<(s.size:Int))=false:=by simp;omega
    have aZ:¬(i:Int)+(n:Int)+1<(s.size:Int):=by omega
    by_cases ab:24<n
    ·have J:decide ((24:Int)<(n:Int))=true:=by simp;omega
     have O:(24:Int)<(n:Int):=by omega
     go_wp2_with fail;refine aF (v:=aq #[af ae 0,af ae 0,af ae 3,af ae i]) (by simp[aH,eh,go_sem,G,k1,k2,k3]) rfl ?_;exact⟨fE s i _ _ (by decide),B0.out.aM (kI _) _ _ _ _⟩
    ·have J:decide ((24:Int)<(n:Int))=false:=by simp;omega
     have Y:decide (24<n)=false:=by simp;omega
     have O:¬(24:Int)<(n:Int):=by omega
     go_wp2_with fail;refine(mN _ _).mono ?_;rintro e w2 ⟨b,rfl,rfl⟩;cases b
     ·go_wp2_with fail;refine(kX _ _).mono ?_;rintro e w2 ⟨rfl,rfl⟩;generalize fc (bt s i)=u;cases u;·go_wp2_with fail;refine aF (v:=aq #[af ae n,af ae 1,af ae 0,af ae 0]) (by simp[aH,eh,go_sem,G,k1,k2,k3]) rfl ?_;exact⟨e8 s i _ n _ (by first|rfl|omega) (by omega) (by omega),B0.out.aM (kI _) _ _ _ _⟩
      ·go_wp2_with fail;refine aF (v:=aq #[af ae n,af ae 2,af ae 0,af ae 0]) (by simp[aH,eh,go_sem,G,k1,k2,k3]) rfl ?_;exact⟨e8 s i _ n _ (by first|rfl|omega) (by omega) (by omega),B0.out.aM (kI _) _ _ _ _⟩
     ·go_wp2_with fail;refine aF (v:=aq #[af ae n,af ae 7,af ae 0,af ae 0]) (by simp[aH,eh,go_sem,G,k1,k2,k3]) rfl ?_;exact⟨e8 s i _ n _ (by first|rfl|omega) (by omega) (by omega),B0.out.aM (kI _) _ _ _ _⟩
  ·by_cases ab:24<n
   ·have J:decide ((24:Int)<(n:Int))=true:=by simp;omega
    have O:(24:Int)<(n:Int):=by omega
    go_wp2_with fail;refine aF (v:=aq #[af ae 0,af ae 0,af ae 3,af ae i]) (by simp[aH,eh,go_sem,G,k1,k2,k3]) rfl ?_;exact⟨fE s i _ _ (by decide),B0.out.aM (kI _) _ _ _ _⟩
   ·have J:decide ((24:Int)<(n:Int))=false:=by simp;omega
    have Y:decide (24<n)=false:=by simp;omega
    have O:¬(24:Int)<(n:Int):=by omega
    go_wp2_with fail;refine(mN _ _).mono ?_;rintro e w2 ⟨b,rfl,rfl⟩;cases b
    ·go_wp2_with fail;refine(kX _ _).mono ?_;rintro e w2 ⟨rfl,rfl⟩;generalize fc (bt s i)=u;cases u;·go_wp2_with fail;refine aF (v:=aq #[af ae n,af ae 1,af ae 0,af ae 0]) (by simp[aH,eh,go_sem,G,k1,k2,k3]) rfl ?_;exact⟨e8 s i _ n _ (by first|rfl|omega) (by omega) (by omega),B0.out.aM (kI _) _ _ _ _⟩
     ·go_wp2_with fail;refine aF (v:=aq #[af ae n,af ae 2,af ae 0,af ae 0]) (by simp[aH,eh,go_sem,G,k1,k2,k3]) rfl ?_;exact⟨e8 s i _ n _ (by first|rfl|omega) (by omega) (by omega),B0.out.aM (kI _) _ _ _ _⟩
    ·go_wp2_with fail;refine aF (v:=aq #[af ae n,af ae 7,af ae 0,af ae 0]) (by simp[aH,eh,go_sem,G,k1,k2,k3]) rfl ?_;exact⟨e8 s i _ n _ (by first|rfl|omega) (by omega) (by omega),B0.out.aM (kI _) _ _ _ _⟩
end Go.Proofs.YtdplggpbgommnaaGreatDoor
