/- semvcsref01: words, next, Class. -/
import Derived.Test.YtdplggpbgommnaaGreatDoorG05
import Derived.Test.YtdplggpbgommnaaGreatDoorG02
open Go renaming bodyPost_ret→aF,results→aH
open Go.IntKind renaming i64→ae
open Go.Lib renaming hid→aa
open Go.Proofs.Tryz renaming prog→ai,results224→eh
open Go.Value renaming agg→aq,int→af
open Nat renaming le_refl→an
set_option maxRecDepth 100000
set_option maxHeartbeats 4000000
namespace Go.Proofs.YtdplggpbgommnaaGreatDoor
open Go.RowKit
theorem Jv(f:Int→Bool)(s:ByteArray)(i:Nat)(h:i<s.size)(A:f (bt s i)=true):0<di f s i:=by
 unfold di;obtain⟨⟨l⟩⟩:=s;have E:i<l.length:=h;unfold bt at A;dsimp only at A⊢;have G:l.getD i 0=l[i]:=by rw[List.getD_eq_getElem?_getD,List.getElem?_eq_getElem E];rfl
 rw[G]at A;rw[List.drop_eq_getElem_cons E,List.takeWhile_cons,A];simp
theorem Jw(s:ByteArray)(i:Nat)(h:i<s.size)(A:eI (bt s i)=true):0<hD s i:=by unfold hD;rw[if_pos ⟨h,A⟩];exact Jv _ s i h (by unfold cn;rw[A];rfl)
theorem Bk(w:World)(s:ByteArray)(E:s.size≤140737488355328)(z:Int)(i:Nat)(hz:z=(i:Int))(A:i≤s.size):Calls ai 239 #[.string s,af ae z] w fun e w'=>e= .returned (af ae (hD s i))∧w=w':=by subst hz;exact x1 w s E i A
def r9(s:ByteArray)(i:Nat)(e:Ending):Prop:=∃(l:Nat) (k er a:Int),e= .returned (aq #[af ae l,af ae k,af ae er,af ae a])∧(er=0→0<l∧i+l≤s.size)
theorem fE(s:ByteArray)(i:Nat)(A a:Int)(h:A≠0):r9 s i (.returned (aq #[af ae 0,af ae 0,af ae A,af ae a])):=⟨0,0,A,a,rfl,fun e=>absurd e h⟩
theorem e8(s:ByteArray)(i:Nat)(z:Int)(l:Nat)(k:Int)(hz:z=(l:Int))(h1:0<l)(h2:i+l≤s.size):r9 s i (.returned (aq #[af ae z,af ae k,af ae 0,af ae 0])):=by subst hz;exact⟨l,k,0,0,rfl,fun _=>⟨h1,h2⟩⟩
theorem AB(w:World)(s:ByteArray)(ak:s.size≤140737488355328)(i:Nat)(ac:i<s.size)(ao:eI (bt s i)=true):Calls ai 224 #[.string s,af ae i] w fun e w'=>r9 s i e∧Below w.heap.size w w':=by
 have h1:=xy s i (by omega);have h2:=Jw s i ac ao;have aP:((s[i]'ac).toNat:Int)=bt s i:=ei ac;obtain⟨n,aj⟩:∃n,hD s i=n:=⟨_,rfl⟩
 rw[aj]at h1 h2;have aG:=aa aj;clear aj ao;have a2:(0:Int)≤(i:Int):=by omega
 have a3:(i:Int)<(s.size:Int):=by omega
 have a4:(i:Int)+(n:Int)≤(s.size:Int):=by omega
 have w1:ae.wrap ((i:Int)+(n:Int))=(i:Int)+(n:Int):=bA (by omega);go_enter Tryz.func224,Tryz.ntmps224;go_wp2_with fail;have ab:Hid (Has (w.alloc (.cells #[af ae 0,af ae 0,af ae 0,af ae 0] 253)) w.heap.size #[af ae 0,af ae 0,af ae 0,af ae 0]):=Has.new _ _ _;have B0:Hid (Below w.heap.size w (w.alloc (.cells #[af ae 0,af ae 0,af ae 0,af ae 0] 253))):=(Below.refl _ _).alloc (an _) _;generalize w.alloc (.cells #[af ae 0,af ae 0,af ae 0,af ae 0] 253)=w0 at ab B0⊢;have a1:=ab.out.lt;obtain⟨⟨A,k1,k2,k3⟩,a5,a8,a9,ba⟩:=ab.out.four;refine(x1 _ s ak i (by omega)).mono ?_;rintro e w2 ⟨rfl,rfl⟩;rw[aG.out];go_wp2_with fail;refine(kX _ _).mono ?_;rintro e w2 ⟨rfl,rfl⟩;obtain⟨aO,ax⟩:∃b,fc (bt s i)=b:=⟨_,rfl⟩
 rw[ax];clear ax;cases aO
 ·by_cases O:24<n
  ·have E:decide ((24:Int)<(n:Int))=true:=by simp;omega
   have G:(24:Int)<(n:Int):=by omega
   go_wp2_with fail;refine aF (v:=aq #[af ae 0,af ae 0,af ae 3,af ae i]) (by simp[aH,eh,go_sem,A,k1,k2,k3]) rfl ?_;exact⟨fE s i _ _ (by decide),B0.out.aM (an _) _ _ _ _⟩
  ·have E:decide ((24:Int)<(n:Int))=false:=by simp;omega
   have M:decide (24<n)=false:=by simp;omega
   have G:¬(24:Int)<(n:Int):=by omega
   go_wp2_with fail;refine(mN _ _).mono ?_;rintro e w2 ⟨b,rfl,rfl⟩;cases b
   ·go_wp2_with fail;refine(kX _ _).mono ?_;rintro e w2 ⟨rfl,rfl⟩;generalize fc (bt s i)=u;cases u;·go_wp2_with fail;refine aF (v:=aq #[af ae n,af ae 1,af ae 0,af ae 0]) (by simp[aH,eh,go_sem,A,k1,k2,k3]) rfl ?_;exact⟨e8 s i _ n _ (by first|rfl|omega) (by omega) (by omega),B0.out.aM (an _) _ _ _ _⟩
    ·go_wp2_with fail;refine aF (v:=aq #[af ae n,af ae 2,af ae 0,af ae 0]) (by simp[aH,eh,go_sem,A,k1,k2,k3]) rfl ?_;exact⟨e8 s i _ n _ (by first|rfl|omega) (by omega) (by omega),B0.out.aM (an _) _ _ _ _⟩
   ·go_wp2_with fail;refine aF (v:=aq #[af ae n,af ae 7,af ae 0,af ae 0]) (by simp[aH,eh,go_sem,A,k1,k2,k3]) rfl ?_;exact⟨e8 s i _ n _ (by first|rfl|omega) (by omega) (by omega),B0.out.aM (an _) _ _ _ _⟩
 ·go_wp2_with fail;refine(mN _ _).mono ?_;rintro e w2 ⟨b,rfl,rfl⟩;cases b
  ·by_cases aY:i+n+1<s.size
   ·have aJ:(i:Int)+(n:Int)+1<(s.size:Int):=by omega
    have am:i+n<s.size:=by omega
    have aS:(i:Int)+(n:Int)<(s.size:Int):=by omega
    have aT:(0:Int)≤(i:Int)+(n:Int):=by omega
    have aQ:((s[i+n]'am).toNat:Int)=bt s (i+n):=ei am;by_cases Y:bt s (i+n)=46
    ·have aL:(bt s (i+n)==46)=true:=by simpa using Y
     clear Y;go_wp2_with fail;refine(Bk _ s ak _ (i+n+1) (by omega) (by omega)).mono ?_;rintro e w2 ⟨rfl,rfl⟩;have aN:=xy s (i+n+1) (by omega);obtain⟨k,ad⟩:∃k,hD s (i+n+1)=k:=⟨_,rfl⟩
     rw[ad]at aN⊢;have aB:=aa ad;clear ad;by_cases aZ:0<k
     ·have aM:(0:Int)<(k:Int):=by omega
      go_wp2_with fail;refine(Bk _ s ak _ (i+n+1) (by omega) (by omega)).mono ?_;rintro e w2 ⟨rfl,rfl⟩;rw[aB.out];go_wp2_with fail;refine(kX _ _).mono ?_;rintro e w2 ⟨rfl,rfl⟩;generalize fc _=u;cases u
      ·go_wp2_with fail;·refine aF (v:=aq #[af ae 0,af ae 0,af ae 3,af ae i]) (by simp[aH,eh,go_sem,A,k1,k2,k3]) rfl ?_;exact⟨fE s i _ _ (by decide),B0.out.aM (an _) _ _ _ _⟩
       ·refine(mN _ _).mono ?_;rintro e w2 ⟨b,rfl,rfl⟩;cases b;·go_wp2_with fail;refine aF (v:=aq #[af ae ((n:Int)+1+(k:Int)),af ae 3,af ae 0,af ae 0]) (by simp[aH,eh,go_sem,A,k1,k2,k3]) rfl ?_;exact⟨e8 s i _ (n+1+k) _ (by first|rfl|omega) (by omega) (by omega),B0.out.aM (an _) _ _ _ _⟩
        ·go_wp2_with fail;refine aF (v:=aq #[af ae 0,af ae 0,af ae 2,af ae i]) (by simp[aH,eh,go_sem,A,k1,k2,k3]) rfl ?_;exact⟨fE s i _ _ (by decide),B0.out.aM (an _) _ _ _ _⟩
       ·refine aF (v:=aq #[af ae 0,af ae 0,af ae 3,af ae i]) (by simp[aH,eh,go_sem,A,k1,k2,k3]) rfl ?_;exact⟨fE s i _ _ (by decide),B0.out.aM (an _) _ _ _ _⟩
      ·go_wp2_with fail;·refine aF (v:=aq #[af ae 0,af ae 0,af ae 3,af ae i]) (by simp[aH,eh,go_sem,A,k1,k2,k3]) rfl ?_;exact⟨fE s i _ _ (by decide),B0.out.aM (an _) _ _ _ _⟩
       ·refine(mN _ _).mono ?_;rintro e w2 ⟨b,rfl,rfl⟩;cases b;·go_wp2_with fail;refine aF (v:=aq #[af ae ((n:Int)+1+(k:Int)),af ae 4,af ae 0,af ae 0]) (by simp[aH,eh,go_sem,A,k1,k2,k3]) rfl ?_;exact⟨e8 s i _ (n+1+k) _ (by first|rfl|omega) (by omega) (by omega),B0.out.aM (an _) _ _ _ _⟩
        ·go_wp2_with fail;refine aF (v:=aq #[af ae 0,af ae 0,af ae 2,af ae i]) (by simp[aH,eh,go_sem,A,k1,k2,k3]) rfl ?_;exact⟨fE s i _ _ (by decide),B0.out.aM (an _) _ _ _ _⟩
       ·refine aF (v:=aq #[af ae 0,af ae 0,af ae 3,af ae i]) (by simp[aH,eh,go_sem,A,k1,k2,k3]) rfl ?_;exact⟨fE s i _ _ (by decide),B0.out.aM (an _) _ _ _ _⟩
     ·have aM:¬(0:Int)<(k:Int):=by omega
      have aV:decide ((0:Int)<(k:Int))=false:=by simp;omega
      by_cases O:24<n
      ·have E:decide ((24:Int)<(n:Int))=true:=by simp;omega
       have G:(24:Int)<(n:Int):=by omega
       go_wp2_with fail;refine aF (v:=aq #[af ae 0,af ae 0,af ae 3,af ae i]) (by simp[aH,eh,go_sem,A,k1,k2,k3]) rfl ?_;exact⟨fE s i _ _ (by decide),B0.out.aM (an _) _ _ _ _⟩
      ·have E:decide ((24:Int)<(n:Int))=false:=by simp;omega
       have M:decide (24<n)=false:=by simp;omega
       have G:¬(24:Int)<(n:Int):=by omega
       go_wp2_with fail;refine(mN _ _).mono ?_;rintro e w2 ⟨b,rfl,rfl⟩;cases b
       ·go_wp2_with fail;refine(kX _ _).mono ?_;rintro e w2 ⟨rfl,rfl⟩;generalize fc (bt s i)=u;cases u;·go_wp2_with fail;refine aF (v:=aq #[af ae n,af ae 1,af ae 0,af ae 0]) (by simp[aH,eh,go_sem,A,k1,k2,k3]) rfl ?_;exact⟨e8 s i _ n _ (by first|rfl|omega) (by omega) (by omega),B0.out.aM (an _) _ _ _ _⟩
        ·go_wp2_with fail;refine aF (v:=aq #[af ae n,af ae 2,af ae 0,af ae 0]) (by simp[aH,eh,go_sem,A,k1,k2,k3]) rfl ?_;exact⟨e8 s i _ n _ (by first|rfl|omega) (by omega) (by omega),B0.out.aM (an _) _ _ _ _⟩
       ·go_wp2_with fail;refine aF (v:=aq #[af ae n,af ae 7,af ae 0,af ae 0]) (by simp[aH,eh,go_sem,A,k1,k2,k3]) rfl ?_;exact⟨e8 s i _ n _ (by first|rfl|omega) (by omega) (by omega),B0.out.aM (an _) _ _ _ _⟩
    ·have aL:(bt s (i+n)==46)=false:=by simpa using Y
     clear Y;by_cases O:24<n
     ·have E:decide ((24:Int)<(n:Int))=true:=by simp;omega
      have G:(24:Int)<(n:Int):=by omega
      go_wp2_with fail;refine aF (v:=aq #[af ae 0,af ae 0,af ae 3,af ae i]) (by simp[aH,eh,go_sem,A,k1,k2,k3]) rfl ?_;exact⟨fE s i _ _ (by decide),B0.out.aM (an _) _ _ _ _⟩
     ·have E:decide ((24:Int)<(n:Int))=false:=by simp;omega
      have M:decide (24<n)=false:=by simp;omega
      have G:¬(24:Int)<(n:Int):=by omega
      go_wp2_with fail;refine(mN _ _).mono ?_;rintro e w2 ⟨b,rfl,rfl⟩;cases b
      ·go_wp2_with fail;refine(kX _ _).mono ?_;rintro e w2 ⟨rfl,rfl⟩;generalize fc (bt s i)=u;cases u;·go_wp2_with fail;refine aF (v:=aq #[af ae n,af ae 1,af ae 0,af ae 0]) (by simp[aH,eh,go_sem,A,k1,k2,k3]) rfl ?_;exact⟨e8 s i _ n _ (by first|rfl|omega) (by omega) (by omega),B0.out.aM (an _) _ _ _ _⟩
       ·go_wp2_with fail;refine aF (v:=aq #[af ae n,af ae 2,af ae 0,af ae 0]) (by simp[aH,eh,go_sem,A,k1,k2,k3]) rfl ?_;exact⟨e8 s i _ n _ (by first|rfl|omega) (by omega) (by omega),B0.out.aM (an _) _ _ _ _⟩
      ·go_wp2_with fail;refine aF (v:=aq #[af ae n,af ae 7,af ae 0,af ae 0]) (by simp[aH,eh,go_sem,A,k1,k2,k3]) rfl ?_;exact⟨e8 s i _ n _ (by first|rfl|omega) (by omega) (by omega),B0.out.aM (an _) _ _ _ _⟩
   ·have aJ:decide ((i:Int)+(n:Int)+1<(s.size:Int))=false:=by simp;omega
    have aX:¬(i:Int)+(n:Int)+1<(s.size:Int):=by omega
    by_cases O:24<n
    ·have E:decide ((24:Int)<(n:Int))=true:=by simp;omega
     have G:(24:Int)<(n:Int):=by omega
     go_wp2_with fail;refine aF (v:=aq #[af ae 0,af ae 0,af ae 3,af ae i]) (by simp[aH,eh,go_sem,A,k1,k2,k3]) rfl ?_;exact⟨fE s i _ _ (by decide),B0.out.aM (an _) _ _ _ _⟩
    ·have E:decide ((24:Int)<(n:Int))=false:=by simp;omega
     have M:decide (24<n)=false:=by simp;omega
     have G:¬(24:Int)<(n:Int):=by omega
     go_wp2_with fail;refine(mN _ _).mono ?_;rintro e w2 ⟨b,rfl,rfl⟩;cases b
     ·go_wp2_with fail;refine(kX _ _).mono ?_;rintro e w2 ⟨rfl,rfl⟩;generalize fc (bt s i)=u;cases u;·go_wp2_with fail;refine aF (v:=aq #[af ae n,af ae 1,af ae 0,af ae 0]) (by simp[aH,eh,go_sem,A,k1,k2,k3]) rfl ?_;exact⟨e8 s i _ n _ (by first|rfl|omega) (by omega) (by omega),B0.out.aM (an _) _ _ _ _⟩
      ·go_wp2_with fail;refine aF (v:=aq #[af ae n,af ae 2,af ae 0,af ae 0]) (by simp[aH,eh,go_sem,A,k1,k2,k3]) rfl ?_;exact⟨e8 s i _ n _ (by first|rfl|omega) (by omega) (by omega),B0.out.aM (an _) _ _ _ _⟩
     ·go_wp2_with fail;refine aF (v:=aq #[af ae n,af ae 7,af ae 0,af ae 0]) (by simp[aH,eh,go_sem,A,k1,k2,k3]) rfl ?_;exact⟨e8 s i _ n _ (by first|rfl|omega) (by omega) (by omega),B0.out.aM (an _) _ _ _ _⟩
  ·by_cases O:24<n
   ·have E:decide ((24:Int)<(n:Int))=true:=by simp;omega
    have G:(24:Int)<(n:Int):=by omega
    go_wp2_with fail;refine aF (v:=aq #[af ae 0,af ae 0,af ae 3,af ae i]) (by simp[aH,eh,go_sem,A,k1,k2,k3]) rfl ?_;exact⟨fE s i _ _ (by decide),B0.out.aM (an _) _ _ _ _⟩
   ·have E:decide ((24:Int)<(n:Int))=false:=by simp;omega
    have M:decide (24<n)=false:=by simp;omega
    have G:¬(24:Int)<(n:Int):=by omega
    go_wp2_with fail;refine(mN _ _).mono ?_;rintro e w2 ⟨b,rfl,rfl⟩;cases b
    ·go_wp2_with fail;refine(kX _ _).mono ?_;rintro e w2 ⟨rfl,rfl⟩;generalize fc (bt s i)=u;cases u;·go_wp2_with fail;refine aF (v:=aq #[af ae n,af ae 1,af ae 0,af ae 0]) (by simp[aH,eh,go_sem,A,k1,k2,k3]) rfl ?_;exact⟨e8 s i _ n _ (by first|rfl|omega) (by omega) (by omega),B0.out.aM (an _) _ _ _ _⟩
     ·go_wp2_with fail;refine aF (v:=aq #[af ae n,af ae 2,af ae 0,af ae 0]) (by simp[aH,eh,go_sem,A,k1,k2,k3]) rfl ?_;exact⟨e8 s i _ n _ (by first|rfl|omega) (by omega) (by omega),B0.out.aM (an _) _ _ _ _⟩
    ·go_wp2_with fail;refine aF (v:=aq #[af ae n,af ae 7,af ae 0,af ae 0]) (by simp[aH,eh,go_sem,A,k1,k2,k3]) rfl ?_;exact⟨e8 s i _ n _ (by first|rfl|omega) (by omega) (by omega),B0.out.aM (an _) _ _ _ _⟩
end Go.Proofs.YtdplggpbgommnaaGreatDoor
