/- Code and calls as they are reckoned: what a call gives, if it gives anything, holds of the program; known calls. -/
import Derived.Test.YtlgdojkmbfbnjaaGreatDoorFB
import Derived.Test.YtlgdojkmbfbnjaaGreatDoorMC
namespace Go.Proofs.YtlgdojkmbfbnjaaGreatDoor
open Go.RowKit

/-! What has not been turned. -/
def HLe (h h' : HP) : Prop := h.d ≤ h.n → h'.d ≤ h'.n ∧ h.n ≤ h'.n ∧ h'.d ≤ h.d ∧ ∀ k, k < h'.d → hget h' k = hget h k
theorem HLe.rfl {h : HP} : HLe h h := fun q => ⟨q, Nat.le_refl _, Nat.le_refl _, fun _ _ => Eq.refl _⟩
theorem HLe.trans {a b c : HP} (x : HLe a b) (y : HLe b c) : HLe a c := fun q => by
  obtain ⟨x1, x2, x3, x4⟩ := x q
  obtain ⟨y1, y2, y3, y4⟩ := y x1
  exact ⟨y1, Nat.le_trans x2 y2, Nat.le_trans y3 x3, fun k hk => (y4 k hk).trans (x4 k (Nat.lt_of_lt_of_le hk y3))⟩
theorem hle_set {H : HP} {k : Nat} {o : EO} : HLe H (hset H k o) := fun q => by
  have e : (hset H k o).d = if H.d ≤ k then H.d else k := by
    show (bif Nat.ble H.d k then H.d else k) = _
    rw [cond_eq_ite]
    simp only [ble_iff]
  have h : ∀ j, hget (hset H k o) j = if k = j then o else hget H j := fun j => hg_set _ _ _ _
  refine ⟨?_, Nat.le_refl _, ?_, fun j hj => ?_⟩
  · rw [e]
    show _ ≤ H.n
    split <;> omega
  · rw [e]
    split <;> omega
  · rw [e] at hj
    rw [h, if_neg]
    split at hj <;> omega
theorem hle_new {H : HP} {o : EO} : HLe H (hnew H o) := fun q => by
  have h : ∀ j, hget (hnew H o) j = if H.n = j then o else hget H j := fun j => hg_set _ _ _ _
  refine ⟨Nat.le_succ_of_le q, Nat.le_succ _, Nat.le_refl _, fun j hj => ?_⟩
  replace hj : j < H.d := hj
  rw [h, if_neg (by omega)]
def CLm (c : CL) : Prop := ∀ f xs H (k : KV) r, c f xs H k = some r → ∃ x h', HLe H h' ∧ k x h' = some r
def MoO (c : CL) (f : OpC) : Prop := ∀ S F H (k : KV) r, f.f c S F H k = some r → ∃ x h', HLe H h' ∧ k x h' = some r
section
variable {c : CL}
theorem moP (g : Sk → FT → Option AV) : MoO c (oP g) := fun S F H k r h => by
  obtain ⟨x, h1, h2⟩ := oB_some (k := fun x => k x H) h
  exact ⟨x, H, .rfl, h2⟩
theorem moR (g : Sk → FT → HP → Option AV) : MoO c (oR g) := fun S F H k r h => by
  obtain ⟨x, h1, h2⟩ := oB_some (k := fun x => k x H) h
  exact ⟨x, H, .rfl, h2⟩
theorem moW {g : Sk → FT → HP → Option HP} (q : ∀ S F H h', g S F H = some h' → HLe H h') : MoO c (oW g) := fun S F H k r h => by
  obtain ⟨x, h1, h2⟩ := oB_some (k := fun x => k .top x) h
  exact ⟨_, x, q _ _ _ _ h1, h2⟩
theorem moV {g : Sk → FT → HP → Option (AV × HP)} (q : ∀ S F H y h', g S F H = some (y, h') → HLe H h') : MoO c (oV g) := fun S F H k r h => by
  obtain ⟨⟨y, x⟩, h1, h2⟩ := oB_some (k := fun x : AV × HP => k x.1 x.2) h
  exact ⟨_, x, q _ _ _ _ _ h1, h2⟩
end
section
variable {H h' : HP} {x y s p m k z za : AV} {e c b n q kt : Nat} {ys : List AV}
theorem wrF_d (h : wrF H p y n = some h') : HLe H h' := by
  unfold wrF wrR at h
  simp only [cond_eq_ite] at h
  repeat' split at h
  all_goals first | (cases h; done) | (obtain rfl := Option.some.inj h; (first | exact hle_set | exact hle_new))
theorem apN_d {m : Nat} (h : apN e c b m H ys = some (y, h')) : HLe H h' := by
  unfold apN at h
  obtain ⟨_, h2⟩ := cond_some h
  simp only [Option.some.injEq, Prod.mk.injEq] at h2
  rw [← h2.2]; exact hle_new
theorem apF_d (h : apF H e c b s ys = some (y, h')) : HLe H h' := by
  unfold apF apS apRF apLF apG ap1 at h
  simp only [cond_eq_ite] at h
  repeat' split at h
  all_goals first
    | (cases h; done)
    | exact apN_d h
    | (simp only [Option.some.injEq, Prod.mk.injEq] at h; obtain ⟨_, rfl⟩ := h; first | exact .rfl | (first | exact hle_set | exact hle_new))
theorem apK_d {str : Bool} (h : apK e c b str H s x = some (y, h')) : HLe H h' := by
  unfold apK apH at h
  simp only [cond_eq_ite] at h
  repeat' split at h
  all_goals first
    | (cases h; done)
    | exact apF_d h
    | (simp only [Option.some.injEq, Prod.mk.injEq] at h; obtain ⟨_, rfl⟩ := h; first | exact .rfl | (first | exact hle_set | exact hle_new))
theorem apZF_d (h : apZF e c b za H s x = some (y, h')) : HLe H h' := by
  unfold apZF at h
  simp only [cond_eq_ite] at h
  repeat' split at h
  all_goals first
    | (cases h; done)
    | exact apN_d h
theorem muF_d {P : Program} (h : muF P kt q H m k x = some h') : HLe H h' := by
  unfold muF at h
  simp only [cond_eq_ite] at h
  repeat' split at h
  all_goals first | (cases h; done) | (obtain rfl := Option.some.inj h; (first | exact hle_set | exact hle_new))
theorem meF_d {P : Program} (h : meF P kt z q H m k = some (y, h')) : HLe H h' := by
  unfold meF at h
  simp only [cond_eq_ite] at h
  repeat' split at h
  all_goals first
    | (cases h; done)
    | (simp only [Option.some.injEq, Prod.mk.injEq] at h; obtain ⟨_, rfl⟩ := h; first | exact .rfl | (first | exact hle_set | exact hle_new))
theorem esF_d (h : esF H m s x = some h') : HLe H h' := by
  unfold esF at h
  repeat' split at h
  all_goals first | (cases h; done) | (obtain rfl := Option.some.inj h; (first | exact hle_set | exact hle_new))
theorem usF_d (h : usF e H p x = some (y, h')) : HLe H h' := by
  unfold usF at h
  repeat' split at h
  all_goals first
    | (cases h; done)
    | (simp only [Option.some.injEq, Prod.mk.injEq] at h; obtain ⟨_, rfl⟩ := h; (first | exact hle_set | exact hle_new))
theorem rgF_d (h : rgF H x = some (y, h')) : HLe H h' := by
  unfold rgF at h
  repeat' split at h
  all_goals first
    | (cases h; done)
    | (simp only [Option.some.injEq, Prod.mk.injEq] at h; obtain ⟨_, rfl⟩ := h; (first | exact hle_set | exact hle_new))
theorem enF_d (h : enF H x = some (y, h')) : HLe H h' := by
  unfold enF at h
  simp only [cond_eq_ite] at h
  repeat' split at h
  all_goals first
    | (cases h; done)
    | (simp only [Option.some.injEq, Prod.mk.injEq] at h; obtain ⟨_, rfl⟩ := h; exact .rfl)
end
section
variable {P : Program} {c : CL} {cv : Operand → XV}
theorem moMv (x : XV) : MoO c (oMv x) := fun _ _ H _ _ h => ⟨_, H, .rfl, h⟩
theorem moAl (T n : Nat) (z : AV) : MoO c (oAl T n z) := fun S F H k r h => ⟨_, _, (by first | exact hle_set | exact hle_new), h⟩
theorem moBx (T : Nat) (x : XV) : MoO c (oBx T x) := fun S F H k r h => by
  obtain ⟨_, h2⟩ := cond_some h
  exact ⟨_, _, (by first | exact hle_set | exact hle_new), h2⟩
theorem moBs (T c1 n : Nat) (xs : List XV) : MoO c (oBs T c1 n xs) := fun S F H k r h => by
  obtain ⟨_, h2⟩ := cond_some h
  exact ⟨_, _, (by first | exact hle_set | exact hle_new), h2⟩
theorem moMk (e c1 b : Nat) (z : AV) (x y : XV) : MoO c (oMk e c1 b z x y) := fun S F H k r h => by
  replace h : mkX e c1 b z H k (y.f S F) (x.f S F) = some r := h
  unfold mkX mkY mkK at h
  simp only [cond_eq_ite] at h
  repeat' split at h
  all_goals first | (cases h; done) | exact ⟨_, _, (by first | exact hle_set | exact hle_new), h⟩
theorem moMm : MoO c oMm := fun S F H k r h => ⟨_, _, (by first | exact hle_set | exact hle_new), h⟩
theorem moCa (hc : CLm c) (f : Nat) (xs : List XV) : MoO c (oCa f xs) := fun _ _ _ _ _ h => hc _ _ _ _ _ h
theorem moCav (hc : CLm c) (x : XV) (xs : List XV) : MoO c (oCav x xs) := fun S F H k r h => by
  replace h : cavV c (evL S F xs) H k (x.f S F) = some r := h
  unfold cavV at h
  split at h
  · exact hc _ _ _ _ _ h
  · exact hc _ _ _ _ _ h
  · cases h
theorem cmpN_m (op : BinOp) (t : TypeId) (x y : XV) : MoO c (cmpN P op t x y) := by
  unfold cmpN
  split <;> exact moP _
theorem cmpC_m (hc : CLm c) {cl : Call} {f : OpC} (h : cmpC P cv cl = some f) : MoO c f := by
  unfold cmpC cmpA cmpF at h
  repeat' split at h
  all_goals first | (cases h; done) | (obtain rfl := Option.some.inj h)
  all_goals first
    | exact moP _
    | exact moR _
    | exact moMv _
    | exact moCa hc _ _
    | exact moCav hc _ _
    | exact moV fun _ _ _ _ _ h => apK_d h
    | exact moV fun _ _ _ _ _ h => apZF_d h
    | exact moV fun _ _ _ _ _ h => usF_d h
theorem cmpO_m (hc : CLm c) {o : Oper} {f : OpC} (h : cmpO P cv o = some f) : MoO c f := by
  unfold cmpO cmpB cmpM at h
  repeat' split at h
  all_goals first
    | exact cmpC_m hc h
    | (cases h; done)
    | (obtain rfl := Option.some.inj h)
  all_goals first
    | exact moP _
    | exact moR _
    | exact moMv _
    | exact cmpN_m _ _ _ _
    | exact moAl _ _ _
    | exact moBx _ _
    | exact moBs _ _ _ _
    | exact moMk _ _ _ _ _ _
    | exact moMm
    | exact moW fun _ _ _ _ h => wrF_d h
    | exact moW fun _ _ _ _ h => muF_d h
    | exact moW fun _ _ _ _ h => esF_d h
    | exact moV fun _ _ _ _ _ h => meF_d h
    | exact moV fun _ _ _ _ _ h => rgF_d h
    | exact moV fun _ _ _ _ _ h => enF_d h
/-! Regions. -/
def MoX (c : CL) (x : XR) : Prop := ∀ (k : KS) S F H r, x.f c k S F H = some r → ∃ S' F' h', HLe H h' ∧ k S' F' h' = some r
theorem wantK_some {x : AV} {w : Bool} {a b : R} {r : AV × HP} (h : wantK x w a b = some r) : a = some r ∨ b = some r := (want_ok h).elim (fun h => .inl h.2) fun h => .inr h.2
theorem mkR_m {g : Option (XV × Bool)} {d : Ds} {f : OpC} (hf : MoO c f) : MoX c (mkR g d f) := fun k S F H r h => by
  have run : ∀ k' : KV, (∀ x h', k' x h' = some r → ∃ S' F', k S' F' h' = some r) → f.f c S F H k' = some r → ∃ S' F' h', HLe H h' ∧ k S' F' h' = some r := fun k' q h => by
    obtain ⟨x, h', h1, h2⟩ := hf _ _ _ _ _ h
    obtain ⟨S', F', h3⟩ := q _ _ h2
    exact ⟨S', F', h', h1, h3⟩
  unfold mkR at h
  split at h
  · split at h
    · exact run _ (fun x h' q => ⟨_, _, q⟩) h
    · exact run _ (fun x h' q => ⟨_, _, q⟩) h
    · exact run _ (fun x h' q => ⟨_, _, q⟩) h
  · split at h
    · rcases wantK_some h with h | h
      · exact run _ (fun x h' q => ⟨_, _, q⟩) h
      · exact ⟨_, _, _, .rfl, h⟩
    · rcases wantK_some h with h | h
      · exact run _ (fun x h' q => ⟨_, _, q⟩) h
      · exact ⟨_, _, _, .rfl, h⟩
    · rcases wantK_some h with h | h
      · exact run _ (fun x h' q => ⟨_, _, q⟩) h
      · exact ⟨_, _, _, .rfl, h⟩
theorem cmpL_m (hc : CLm c) {n : Nat} {ks : List Nat} {ops : Array Oper} : ∀ {l : List Oper} {en : List (Nat × Loc)} {dep : Nat}, ∀ x ∈ cmpL P n ks ops l en dep, MoX c x
  | [], en, dep, x, hx => by cases hx
  | o :: l, en, dep, x, hx => by
    rw [cmpL] at hx
    split at hx
    · exact cmpL_m hc x hx
    · split at hx
      · rename_i q hq
        rcases List.mem_cons.1 hx with rfl | hx
        · unfold cmpX at hq
          split at hq
          · rename_i f g d hf hg hd
            split at hq
            · obtain rfl := Option.some.inj hq
              exact mkR_m (cmpO_m hc hf)
            · cases hq
          · cases hq
        · exact cmpL_m hc x hx
      · rw [List.mem_singleton] at hx
        subst hx
        exact fun k S F H r h => by cases h
theorem runL_m {N : FT → HP → R} : ∀ {l : List XR} {S : Sk} {F : FT} {H : HP} {r : AV × HP}, (∀ x ∈ l, MoX c x) → runL c N l S F H = some r → ∃ F' h', HLe H h' ∧ N F' h' = some r
  | [], S, F, H, r, hl, h => ⟨F, H, .rfl, h⟩
  | x :: l, S, F, H, r, hl, h => by
    obtain ⟨S', F', h1, q1, q2⟩ := hl x List.mem_cons_self (runL c N l) _ _ _ _ h
    obtain ⟨F2, h2, q3, q4⟩ := runL_m (fun x hx => hl x (List.mem_cons_of_mem _ hx)) q2
    exact ⟨F2, h2, q1.trans q3, q4⟩
def MoP (c : CL) (x : XP) : Prop := ∀ (k : KP) pd S F H r, x.f c k pd S F H = some r → ∃ pd' S' F' h', HLe H h' ∧ k pd' S' F' h' = some r
theorem gdW_some {g : Option (XV × Bool)} {S : Sk} {F : FT} {a b : R} {r : AV × HP} (h : gdW g S F a b = some r) : a = some r ∨ b = some r := by
  unfold gdW at h
  split at h
  · exact .inl h
  · exact wantK_some h
theorem mkP_m {ks : List Nat} {ops : Array Oper} {pm : List Nat} {en : List (Nat × Loc)} {dep i : Nat} {o : Oper} {s dn : List Nat} {g : Option (XV × Bool)} {d : Ds} {f : OpC} (hf : MoO c f) : MoP c (mkP P ks ops pm en dep i o s dn g d f) := fun k pd S F H r h => by
  have run : ∀ k' : KV, (∀ x h', k' x h' = some r → ∃ pd' S' F', k pd' S' F' h' = some r) → f.f c S F H k' = some r → ∃ pd' S' F' h', HLe H h' ∧ k pd' S' F' h' = some r := fun k' q h => by
    obtain ⟨x, h', h1, h2⟩ := hf _ _ _ _ _ h
    obtain ⟨pd', S', F', h3⟩ := q _ _ h2
    exact ⟨pd', S', F', h', h1, h3⟩
  have x0 : (xP0 g d f).f c k pd S F H = some r → ∃ pd' S' F' h', HLe H h' ∧ k pd' S' F' h' = some r := fun h => by
    rcases gdW_some h with h | h
    · exact run _ (fun x h' q => ⟨_, _, _, q⟩) h
    · exact ⟨_, _, _, _, .rfl, h⟩
  unfold mkP at h
  split at h
  · split at h
    · rcases gdW_some h with h | h
      · exact run _ (fun x h' q => ⟨_, _, _, (cond_some q).2⟩) h
      · exact ⟨_, _, _, _, .rfl, h⟩
    · cases h
    · obtain ⟨_, h⟩ := cond_some h
      exact run _ (fun x h' q => ⟨_, _, _, q⟩) h
  · simp only [cond_eq_ite] at h
    split at h
    · rcases gdW_some h with h | h
      · exact run _ (fun x h' q => ⟨_, _, _, q⟩) h
      · exact ⟨_, _, _, _, .rfl, h⟩
    · exact x0 h
  · simp only [cond_eq_ite] at h
    split at h
    · rcases gdW_some h with h | h
      · exact run _ (fun x h' q => ⟨_, _, _, q⟩) h
      · exact ⟨_, _, _, _, .rfl, h⟩
    · exact x0 h
theorem badP_m : MoP c badP := fun k pd S F H r h => by cases h
theorem cmpD_m (hc : CLm c) {n : Nat} {ks : List Nat} {ops : Array Oper} {pm : List Nat} : ∀ {s dn : List Nat} {en : List (Nat × Loc)} {dep : Nat}, ∀ x ∈ cmpD P n ks ops pm s dn en dep, MoP c x
  | [], dn, en, dep, x, hx => by cases hx
  | i :: s, dn, en, dep, x, hx => by
    have bad : x ∈ [badP] → MoP c x := fun h => by
      rw [List.mem_singleton] at h
      subst h; exact badP_m
    rw [cmpD] at hx
    split at hx
    · exact bad hx
    · split at hx
      · exact cmpD_m hc x hx
      · split at hx
        · rename_i f g d hf hg hd
          split at hx
          · rcases List.mem_cons.1 hx with rfl | hx
            · exact mkP_m (cmpO_m hc hf)
            · exact cmpD_m hc x hx
          · exact bad hx
        · exact bad hx
theorem runQ_m {N : FT → HP → R} : ∀ {l : List XP} {pd : List PE} {S : Sk} {F : FT} {H : HP} {r : AV × HP}, (∀ x ∈ l, MoP c x) → runQ c N l pd S F H = some r → ∃ F' h', HLe H h' ∧ N F' h' = some r
  | [], pd, S, F, H, r, hl, h => ⟨F, H, .rfl, h⟩
  | x :: l, pd, S, F, H, r, hl, h => by
    obtain ⟨pd', S', F', h1, q1, q2⟩ := hl x List.mem_cons_self (runQ c N l) _ _ _ _ _ h
    obtain ⟨F2, h2, q3, q4⟩ := runQ_m (fun x hx => hl x (List.mem_cons_of_mem _ hx)) q2
    exact ⟨F2, h2, q1.trans q3, q4⟩
end
end Go.Proofs.YtlgdojkmbfbnjaaGreatDoor

namespace Go.Proofs.YtlgdojkmbfbnjaaGreatDoor
open Go.RowKit

theorem nodup_le : ∀ (n : Nat) (l : List Nat), l.Nodup → (∀ x ∈ l, x < n) → l.length ≤ n
  | 0, l, _, h => by
    cases l with
    | nil => simp
    | cons x l => exact absurd (h x List.mem_cons_self) (by omega)
  | n + 1, l, hd, h => by
    have := nodup_le n (l.erase n) (hd.erase n) fun x hx => by
      have h1 := (hd.mem_erase_iff).1 hx
      have := h x h1.2
      have := h1.1
      omega
    by_cases hm : n ∈ l
    · rw [List.length_erase_of_mem hm] at this; omega
    · rw [List.erase_of_not_mem hm] at this; omega
section
variable {P : Program} {g : Gh} {H : AS} {w : World}
/-- Which entry came last is forgotten. -/
theorem RelH.weak (R : RelH g H w) {k n : Nat} {m cur : Option Nat} (e : H[k]? = some (.ir m n cur)) : RelH g (H.set k (.ir m n none)) w := by
  have hk : k < H.length := (List.getElem?_eq_some_iff.1 e).1
  have ne : ∀ k1 T c l live hf, (H.set k (AO.ir m n none))[k1]? = some (AO.row T c l live hf) → H[k1]? = some (AO.row T c l live hf) := fun k1 T c l live hf e1 => by
    by_cases h : k1 = k
    · subst h
      rw [List.getElem?_set_self hk] at e1
      cases e1
    · rwa [List.getElem?_set_ne (fun e2 => h e2.symm)] at e1
  refine ⟨R.im, fun k1 T c l live hf e1 => R.ob k1 T c l live hf (ne _ _ _ _ _ _ e1), fun k1 T c l live hf e1 => R.ver k1 T c l live hf (ne _ _ _ _ _ _ e1), R.inj, fun k1 r b h => by rw [List.length_set]; exact R.lo k1 r b h, fun k1 o e1 b hb => ?_⟩
  by_cases h : k1 = k
  · subst h
    rw [List.getElem?_set_self hk] at e1
    obtain rfl := Option.some.inj e1
    have := R.mb _ _ e b hb
    cases m with
    | none => exact this
    | some q =>
      obtain ⟨bm, s, k1, k2, k3, k4, k5, k6⟩ := this
      exact ⟨bm, s, k1, k2, k3, k4, k5, fun i e => by cases e⟩
  · rw [List.getElem?_set_ne (fun e2 => h e2.symm)] at e1
    exact R.mb k1 o e1 b hb
theorem EX.ir {g : Gh} {H : AS} {k n : Nat} {m cur cur' : Option Nat} (e : H[k]? = some (.ir m n cur)) : EX g H g (H.set k (.ir m n cur')) := ⟨by simp, fun k1 T c l live hf e1 => by
  have : k1 ≠ k := fun h => by subst h; rw [e] at e1; cases e1
  exact ⟨l, live, by rw [List.getElem?_set_ne (fun q => this q.symm)]; exact e1, Nat.le_refl _, fun _ _ => Eq.refl _⟩⟩
/-- The next entry: whichever. -/
theorem nx_ok {o : Oper} {x : Operand} {F : List AV} {a : Act} {k q n : Nat} {cur : Option Nat} {es : List (AV × AV)} {nx : Act → World → Prop} {Q : Exit → Act → World → Prop} (ho : o.op = .next x false) (hx : evA F x = .it k) (hk : H[k]? = some (.ir (some q) n cur)) (hq : H[q]? = some (.mp es)) (hn : es.length = n) (f : RelF g F a) (R : RelH g H w)
    (over : nx (a.put o.dst (.tuple #[.bool false])) w)
    (one : ∀ i g' w' kv vv, i < n → g.le g' → RelH g' (H.set k (.ir (some q) n (some i))) w' → TX g w g' w' → EX g H g' (H.set k (.ir (some q) n (some i))) → (∃ b, g'.s k 0 = some b) → g'.sn k = g.sn k + 1 → g.sn k < n → nx (a.put o.dst (.tuple #[.bool true, kv, vv])) w') : o.wp P a w nx Q := by
  have hv := f.ev x
  rw [hx, V] at hv
  obtain ⟨b, hb, hv⟩ := hv
  obtain ⟨bm, s, k1, k2, k3, k4, k5, k6⟩ := R.mb k _ hk b hb
  obtain ⟨l, hl, hve⟩ := R.mb q _ hq bm k1
  have hlen := hve.len
  have hold : ∀ e ∈ l.toList, e.born < n := fun e he => by
    have : e.born ∈ l.toList.map (·.born) := List.mem_map.2 ⟨e, he, rfl⟩
    rw [hve.born, List.mem_range'_1] at this
    omega
  rcases run_next_at (P := P) w o.type b bm n n s l es.length k2 hl hold (Nat.le_refl _) with ⟨_, hrun⟩ | ⟨e, he, w1, hal, hrun⟩
  · exact ops_val (by simp [execOp, ho, hv, hrun, Result.andThen]) over
  · obtain ⟨hem, hes⟩ := mem_left he
    have hi := hold e hem
    have hns : e.born ∉ s.toList := fun h => by
      have : s.contains e.born = true := by simpa using h
      rw [this] at hes; cases hes
    have hsz : s.size + 1 ≤ n := by
      have := nodup_le n (e.born :: s.toList) (List.nodup_cons.2 ⟨hns, k4⟩) fun x hx => by
        rcases List.mem_cons.1 hx with rfl | hx
        · exact hi
        · exact k5 x (by simpa using hx)
      simpa using this
    let g' : Gh := ⟨g.h, g.s, g.cp, fun k1 => if k1 = k then g.sn k + 1 else g.sn k1⟩
    have gk : g'.sn k = g.sn k + 1 := if_pos rfl
    have le : g.le g' := ⟨Hp.le_refl _, fun _ _ _ e => ⟨e, rfl⟩, fun k1 _ _ _ => by
      show g.sn k1 ≤ if k1 = k then g.sn k + 1 else g.sn k1
      split
      · subst_vars; omega
      · exact Nat.le_refl _⟩
    have fin : ∀ w1 : World, RelH g H w1 → TX g w g w1 → w1.heap = w.heap → RelH g' (H.set k (.ir (some q) n (some e.born))) (ChangeMaps.setBlock w1 b (.mapIter (some bm) n (s.push e.born) es.length)) ∧ TX g w g' (ChangeMaps.setBlock w1 b (.mapIter (some bm) n (s.push e.born) es.length)) ∧ EX g H g' (H.set k (.ir (some q) n (some e.born))) := fun w1 R1 t1 hh => by
      obtain ⟨q1, q2, q3⟩ := R1.mset (g' := g') (o' := .ir (some q) n (some e.born)) (ob' := .mapIter (some bm) n (s.push e.born) es.length) hk rfl rfl hb (by rw [hh]; exact k2) (fun _ _ _ e => by cases e) le (fun _ _ => rfl) (fun _ _ => rfl) rfl (fun k1 h => if_neg h) (by
        have hlt : b < w1.heap.size := (R1.lo _ _ _ hb).2
        refine ⟨bm, s.push e.born, k1, ?_, ?_, ?_, ?_, ?_⟩
        · rw [hn]
          simp [hlt]
        · rw [Array.size_push, k3, gk]
        · rw [Array.toList_push]
          exact List.nodup_append.2 ⟨k4, by simp, fun x hx y hy e1 => by
            rw [List.mem_singleton] at hy
            subst hy e1
            exact hns hx⟩
        · intro x hx
          rcases Array.mem_push.1 hx with hx | rfl
          · exact k5 x hx
          · exact hi
        · intro i e1
          obtain rfl := Option.some.inj e1
          simp)
      exact ⟨q1, t1.trans q2, q3⟩
    have key := (by
      rcases hal with rfl | rfl
      · exact fin w1 R .rfl rfl
      · exact fin w.drew (R.below (Below.refl _ _).drew) ⟨(Tu.refl _ _).drew, fun _ h => .inl h, fun _ => .inl rfl⟩ rfl : RelH g' (H.set k (.ir (some q) n (some e.born))) (ChangeMaps.setBlock w1 b (.mapIter (some bm) n (s.push e.born) es.length)) ∧ TX g w g' (ChangeMaps.setBlock w1 b (.mapIter (some bm) n (s.push e.born) es.length)) ∧ EX g H g' (H.set k (.ir (some q) n (some e.born))))
    exact ops_val (by simp [execOp, ho, hv, hrun, Result.andThen]) (one e.born g' _ e.key e.val hi le key.1 key.2.1 key.2.2 ⟨b, hb⟩ gk (by omega))
/-- No entries. -/
theorem nx0_ok {o : Oper} {x : Operand} {F : List AV} {a : Act} {k n : Nat} {cur : Option Nat} {nx : Act → World → Prop} {Q : Exit → Act → World → Prop} (ho : o.op = .next x false) (hx : evA F x = .it k) (hk : H[k]? = some (.ir none n cur)) (f : RelF g F a) (R : RelH g H w)
    (over : nx (a.put o.dst (.tuple #[.bool false])) w) : o.wp P a w nx Q := by
  have hv := f.ev x
  rw [hx, V] at hv
  obtain ⟨b, hb, hv⟩ := hv
  obtain ⟨aa, s, c, k2⟩ := R.mb k _ hk b hb
  refine ops_val ?_ over
  simp only [execOp, ho, hv]
  simp [Instr.next, getObj, Sem.run, k2, Result.andThen]
end
end Go.Proofs.YtlgdojkmbfbnjaaGreatDoor

namespace Go.Proofs.YtlgdojkmbfbnjaaGreatDoor
open Go.RowKit

abbrev FK := FT → HP → R
inductive CC where
  | ops (l : List XR)
  | drw (l : List XP)
  | seq (a b : CC)
  | cond (x : XV) (a b : CC)
  | block (id : Nat) (b : CC)
  | loop (m : Nat) (b : CC)
  | mlp (x : XV) (p : Pa) (ws : List Pa) (e : Nat) (b : CC)
  | exit (id : Nat)
  | ret
  | skip
  | bad
noncomputable def exB (id : Nat) (N : FK) (E : Nat → FK) (j : Nat) : FK := bif Nat.beq j id then N else E j
noncomputable def cdK (x : AV) (a b : R) : R := match x with
  | .vl v => (match v with | .bool t => Bool.rec b a t | _ => none)
  | _ => none
/-! A loop over a map: the body is told for every entry, and must leave the heap as it was; what is written in it is forgotten. -/
noncomputable def topW (F : FT) (ws : List Pa) : FT := List.rec F (fun p _ ih => fset .top ih p) ws
noncomputable def hcur (H : HP) (k q n : Nat) (cur : Option Nat) (d : Nat) : HP := ⟨hs (.ir (some q) n cur) H.t k, H.n, d⟩
noncomputable def endM (n : Nat) : FK := fun _ H => bif Nat.beq H.d n then some (.top, H) else none
noncomputable def noK : FK := fun _ _ => none
noncomputable def gotR (r : R) : Bool := Option.rec false (fun _ => true) r
noncomputable def allN (n : Nat) (f : Nat → Bool) : Bool := Nat.rec true (fun i ih => Bool.rec false ih (f i)) n
noncomputable def allB {α : Type} (f : α → Bool) (l : List α) : Bool := List.rec true (fun x _ ih => Bool.rec false ih (f x)) l
/-- Of what a value speaks: of objects below n. -/
noncomputable def cloV (n d : Nat) : AV → Bool := Nat.rec (fun _ => false) (fun _ ih x => match x with
  | .ag l => allB ih l
  | .tu l => allB ih l
  | .fn _ l => allB ih l
  | .fb _ l => allB ih l
  | .rf _ k _ _ _ => Nat.blt k n
  | .rl _ k _ _ _ => Nat.blt k n
  | .pt _ k _ _ _ => Nat.blt k n
  | .mr k => Nat.blt k n
  | .it k => Nat.blt k n
  | _ => true) d
noncomputable def cloO (n : Nat) (o : EO) : Bool := match o with
  | .row _ _ _ l _ => allB (cloV n 20) l
  | .mp es => allB (fun p => bif cloV n 20 p.1 then cloV n 20 p.2 else false) es
  | .ir m _ _ => (match m with | some q => Nat.blt q n | none => true)
  | .no => true
noncomputable def cloH (H : HP) : Bool := allN H.n fun k => cloO H.n (hget H k)
noncomputable def mlR (x : XV) (p : Pa) (ws : List Pa) (e : Nat) (rb : FK → FK → (Nat → FK) → FK) (E : Nat → FK) (F : FT) (H : HP) : R := match x.f [] (topW F ws) with
  | .it k => (match hget H k with
    | .ir m n _ => (match m with
      | some q => (match hget H q with
        | .mp es => bif Nat.beq (len es) n && cloH H && allN n (fun i => gotR (rb (endM H.n) noK (fun _ => noK) (fset (.vl (.bool true)) (topW F ws) p) (hcur H k q n (some i) H.n))) then E e (fset (.vl (.bool false)) (topW F ws) p) (hcur H k q n none 0) else none
        | _ => none)
      | none => E e (fset (.vl (.bool false)) (topW F ws) p) H)
    | _ => none)
  | _ => none
noncomputable def runC (c : CL) (x : CC) : FK → FK → (Nat → FK) → FK :=
  CC.rec (motive := fun _ => FK → FK → (Nat → FK) → FK)
    (fun l N _ _ F H => runL c N l [] F H)
    (fun l N _ _ F H => runQ c N l [] [] F H)
    (fun _ _ ra rb N Rt E => ra (rb N Rt E) Rt E)
    (fun x _ _ ra rb N Rt E F H => cdK (x.f [] F) (ra N Rt E F H) (rb N Rt E F H))
    (fun id _ rb N Rt E => rb N Rt (exB id N E))
    (fun m _ rb _ Rt E => Nat.rec (fun _ _ => none) (fun _ ih => rb ih Rt E) m)
    (fun x p ws e _ rb _ _ E F H => mlR x p ws e rb E F H)
    (fun id _ _ E => E id)
    (fun _ Rt _ => Rt)
    (fun N _ _ => N)
    (fun _ _ _ _ _ => none) x
noncomputable def pths (ks : List Nat) (l : List Nat) : List Pa := l.filterMap fun t => match keep ks t with | .kp p => some p | _ => none
/-- A loop over a map: the iterator, the slot of the test, where it ends. -/
noncomputable def mlQ (n : Nat) (ks : List Nat) : Code → Option (Operand × Nat × Nat)
  | .seq (.region _ ops false) (.seq (.cond (.tmp t) .skip (.exit e)) _) => (match ops.toList with
    | [o1, o2] => (match o1.op with
      | .next x false => (match o2.op with
        | .extract y j => (match y with
          | .tmp t2 => (match o1.dst with
            | some t1 => if o1.guard = none ∧ o2.guard = none ∧ t2 = t1 ∧ j = 0 ∧ o2.dst = some t ∧ t1 < n ∧ idx t1 ks 0 = none ∧ t ∈ ks then some (x, t, e) else none
            | none => none)
          | _ => none)
        | _ => none)
      | _ => none)
    | _ => none)
  | _ => none
section
variable (P : Program) (n : Nat) (ks : List Nat) (sc : List (Nat × List Nat)) (lf : Nat)
noncomputable def cdM (q : Option (Operand × Nat × Nat)) (w : List Nat) (b : CC) : CC := match q with
  | none => .loop lf b
  | some q => (match keep ks q.2.1 with
    | .kp p => (match b with
      | .seq _ b => (match b with
        | .seq _ b => .mlp (opV ks [] 0 q.1) p (pths ks w) q.2.2 b
        | _ => .bad)
      | _ => .bad)
    | _ => .bad)
noncomputable def cdC : Code → CC
  | .skip => .skip
  | .label _ => .skip
  | .region id ops d => Bool.rec (.ops (cmpL P n ks ops ops.toList [] 0)) (.drw (cmpD P n ks ops (preM ops) (lookS sc id ops.size) [] [] 0)) d
  | .seq a b => .seq (cdC a) (cdC b)
  | .cond x a b => .cond (opV ks [] 0 x) (cdC a) (cdC b)
  | .block id b => .block id (cdC b)
  | .scope b => cdC b
  | .loop b => cdM ks lf (mlQ n ks b) (wrt b) (cdC b)
  | .exit id => .exit id
  | .ret => .ret
  | _ => .bad
def wfX : Code → Bool
  | .region id ops d => !d || wfD (kdE P) ops (preM ops) (lookS sc id ops.size)
  | .seq a b => wfX a && wfX b
  | .cond _ a b => wfX a && wfX b
  | .block _ b => wfX b
  | .loop b => wfX b
  | .scope b => wfX b
  | _ => true
end
structure Tq (D : List Nat) (n : Nat) (ks : List Nat) (g : Gh) (H : AS) (w : World) (a : Act) (F' : FT) (g' : Gh) (h' : HP) (a' : Act) (w' : World) : Prop where
  le : g.le g'
  f : RelF g' (fr n ks [] 0 [] F') a'
  r : RelH g' (asH h') w'
  tx : TX g w g' w'
  ex : EX g H g' (asH h')
  wh : WH h'
  ag : agr' D a a'
theorem Tq.trans {D : List Nat} {n : Nat} {ks : List Nat} {g g1 g2 : Gh} {H : AS} {h1 h2 : HP} {a a1 a2 : Act} {w w1 w2 : World} {F1 F2 : FT} (x : Tq D n ks g H w a F1 g1 h1 a1 w1) (y : Tq D n ks g1 (asH h1) w1 a1 F2 g2 h2 a2 w2) : Tq D n ks g H w a F2 g2 h2 a2 w2 :=
  ⟨x.le.trans y.le, y.f, y.r, x.tx.trans y.tx, x.ex.trans y.ex, y.wh, x.ag.trans y.ag⟩
theorem Tq.mono {D D' : List Nat} {n : Nat} {ks : List Nat} {g g1 : Gh} {H : AS} {h1 : HP} {a a1 : Act} {w w1 : World} {F1 : FT} (x : Tq D n ks g H w a F1 g1 h1 a1 w1) (h : ∀ i ∈ D, i ∈ D') : Tq D' n ks g H w a F1 g1 h1 a1 w1 :=
  ⟨x.le, x.f, x.r, x.tx, x.ex, x.wh, x.ag.mono h⟩
/-! The heap is turned only if it says so. -/
def CCm (c : CL) : CC → Prop
  | .ops l => ∀ x ∈ l, MoX c x
  | .drw l => ∀ x ∈ l, MoP c x
  | .seq a b => CCm c a ∧ CCm c b
  | .cond _ a b => CCm c a ∧ CCm c b
  | .block _ b => CCm c b
  | .loop _ b => CCm c b
  | .mlp _ _ _ _ b => CCm c b
  | _ => True
section
variable {P : Program} {n : Nat} {ks : List Nat} {sc : List (Nat × List Nat)} {lf : Nat} {c : CL}
theorem cdC_m (hc : CLm c) : ∀ code : Code, CCm c (cdC P n ks sc lf code)
  | .skip => trivial
  | .label _ => trivial
  | .exit _ => trivial
  | .ret => trivial
  | .region id ops d => by
    cases d
    · exact cmpL_m hc
    · exact cmpD_m hc
  | .seq a b => ⟨cdC_m hc a, cdC_m hc b⟩
  | .cond _ a b => ⟨cdC_m hc a, cdC_m hc b⟩
  | .block _ b => cdC_m hc b
  | .scope b => cdC_m hc b
  | .loop b => by
    have ih := cdC_m hc b
    show CCm c (cdM ks lf (mlQ n ks b) (wrt b) (cdC P n ks sc lf b))
    generalize cdC P n ks sc lf b = x at ih
    unfold cdM
    split
    · exact ih
    · split
      · split
        · split
          · exact ih.2.2
          · trivial
        · trivial
      · trivial
  | .rangeFunc .. => trivial
  | .goto _ => trivial
  | .refuse _ => trivial
theorem hle_cur {H : HP} {k q m : Nat} {cur : Option Nat} : HLe H (hcur H k q m cur 0) := fun _ => ⟨Nat.zero_le _, Nat.le_refl _, Nat.zero_le _, fun k hk => absurd hk (Nat.not_lt_zero k)⟩
def MoK (N Rt : FK) (E : Nat → FK) (_ : FT) (H : HP) (r : AV × HP) (x : R) : Prop := x = some r → ∃ F' h', HLe H h' ∧ (N F' h' = some r ∨ Rt F' h' = some r ∨ ∃ id, E id F' h' = some r)
theorem runC_m : ∀ (x : CC) {N Rt : FK} {E : Nat → FK} {F : FT} {H : HP} {r : AV × HP}, CCm c x → runC c x N Rt E F H = some r → ∃ F' h', HLe H h' ∧ (N F' h' = some r ∨ Rt F' h' = some r ∨ ∃ id, E id F' h' = some r)
  | .ops l, N, Rt, E, F, H, r, hm, h => by
    obtain ⟨F', h', q1, q2⟩ := runL_m hm h
    exact ⟨F', h', q1, .inl q2⟩
  | .drw l, N, Rt, E, F, H, r, hm, h => by
    obtain ⟨F', h', q1, q2⟩ := runQ_m hm h
    exact ⟨F', h', q1, .inl q2⟩
  | .seq a b, N, Rt, E, F, H, r, hm, h => by
    obtain ⟨F', h', q1, q2 | q2 | q2⟩ := runC_m a (N := runC c b N Rt E) hm.1 h
    · obtain ⟨F2, h2, q3, q4⟩ := runC_m b hm.2 q2
      exact ⟨F2, h2, q1.trans q3, q4⟩
    · exact ⟨F', h', q1, .inr (.inl q2)⟩
    · exact ⟨F', h', q1, .inr (.inr q2)⟩
  | .cond x a b, N, Rt, E, F, H, r, hm, h => by
    replace h : cdK (x.f [] F) (runC c a N Rt E F H) (runC c b N Rt E F H) = some r := h
    generalize x.f [] F = u at h
    unfold cdK at h
    split at h
    · split at h
      · rename_i t
        cases t
        · exact runC_m b hm.2 h
        · exact runC_m a hm.1 h
      · cases h
    · cases h
  | .block id b, N, Rt, E, F, H, r, hm, h => by
    obtain ⟨F', h', q1, q2 | q2 | ⟨j, q2⟩⟩ := runC_m b (N := N) (Rt := Rt) (E := exB id N E) hm h
    · exact ⟨F', h', q1, .inl q2⟩
    · exact ⟨F', h', q1, .inr (.inl q2)⟩
    · unfold exB at q2
      cases e : Nat.beq j id with
      | true => rw [e] at q2; exact ⟨F', h', q1, .inl q2⟩
      | false => rw [e] at q2; exact ⟨F', h', q1, .inr (.inr ⟨j, q2⟩)⟩
  | .loop m b, N, Rt, E, F, H, r, hm, h => by
    obtain ⟨it, hit⟩ : ∃ it : Nat → FK, it = fun m => Nat.rec (fun _ _ => none) (fun _ ih => runC c b ih Rt E) m := ⟨_, rfl⟩
    have key : ∀ m F H, it m F H = some r → ∃ F' h', HLe H h' ∧ (N F' h' = some r ∨ Rt F' h' = some r ∨ ∃ id, E id F' h' = some r) := fun m => by
      induction m with
      | zero => intro F H q; rw [hit] at q; cases q
      | succ m ih =>
        intro F H q
        have q : runC c b (it m) Rt E F H = some r := by rw [hit] at q ⊢; exact q
        obtain ⟨F', h', q1, q2 | q2 | q2⟩ := runC_m b hm q
        · obtain ⟨F2, h2, q3, q4⟩ := ih _ _ q2
          exact ⟨F2, h2, q1.trans q3, q4⟩
        · exact ⟨F', h', q1, .inr (.inl q2)⟩
        · exact ⟨F', h', q1, .inr (.inr q2)⟩
    exact key m F H (by rw [hit]; exact h)
  | .mlp x p ws e b, N, Rt, E, F, H, r, hm, h => by
    replace h : mlR x p ws e (runC c b) E F H = some r := h
    unfold mlR at h
    split at h
    · split at h
      · split at h
        · split at h
          · obtain ⟨_, h2⟩ := cond_some h
            exact ⟨_, _, hle_cur, .inr (.inr ⟨_, h2⟩)⟩
          · cases h
        · exact ⟨_, _, .rfl, .inr (.inr ⟨_, h⟩)⟩
      · cases h
    · cases h
  | .exit id, N, Rt, E, F, H, r, hm, h => ⟨F, H, .rfl, .inr (.inr ⟨id, h⟩)⟩
  | .ret, N, Rt, E, F, H, r, hm, h => ⟨F, H, .rfl, .inr (.inl h)⟩
  | .skip, N, Rt, E, F, H, r, hm, h => ⟨F, H, .rfl, .inl h⟩
  | .bad, N, Rt, E, F, H, r, hm, h => by cases h
end
/-! Slots that are forgotten. -/
theorem fget_topW (F : FT) (q : Pa) : ∀ ws : List Pa, fget (topW F ws) q = if q ∈ ws then .top else fget F q
  | [] => by simp [topW]
  | p :: ws => by
    show fget (fset .top (topW F ws) p) q = _
    rw [fget_set, fget_topW F q ws]
    by_cases h : p = q
    · subst h; simp
    · have : ¬ q = p := fun e => h e.symm
      rw [if_neg h]
      simp [this]
theorem topW_rel {n : Nat} {ks : List Nat} {D : List Nat} {F : FT} {g g' : Gh} {a a' : Act} (f : RelF g (fr n ks [] 0 [] F) a) (q : g.le g') (df : a'.defers = []) (ag : agr' D a a') : RelF g' (fr n ks [] 0 [] (topW F (pths ks D))) a' := by
  refine ⟨f.gl.mono q.h, df, ag.1.trans (f.sz.trans (by rw [fr_len, fr_len])), fun t x e => ?_⟩
  rw [fr_get] at e
  obtain ⟨ht, e⟩ := ite_some e
  obtain rfl := Option.some.inj e
  rw [look_nil]
  have top : V .top g' (a'.tmps.getD t undef) := by rw [V]; trivial
  cases hk : keep ks t with
  | cn v =>
    unfold keep at hk
    split at hk
    · cases hk
    · obtain rfl := Loc.cn.inj hk; exact top
  | st i =>
    unfold keep at hk
    split at hk <;> cases hk
  | kp p =>
    show V (fget (topW F (pths ks D)) p) _ _
    rw [fget_topW]
    split
    · exact top
    · rename_i hp
      have hD : t ∉ D := fun h => hp (List.mem_filterMap.2 ⟨t, h, by rw [hk]⟩)
      have h2 := f.at' t (fget F p) (by rw [fr_get, if_pos ht, look_nil, hk]; rfl)
      rw [Array.getD_eq_getD_getElem?, ag.2 t hD, ← Array.getD_eq_getD_getElem?]
      exact h2.mono _ _ _ _ q
theorem mlQ_ok {n : Nat} {ks : List Nat} {b0 : Code} {x : Operand} {t e : Nat} (h : mlQ n ks b0 = some (x, t, e)) : ∃ id ops b o1 o2 t1, b0 = .seq (.region id ops false) (.seq (.cond (.tmp t) .skip (.exit e)) b) ∧ ops.toList = [o1, o2] ∧ o1.op = .next x false ∧ o2.op = .extract (.tmp t1) 0 ∧ o1.dst = some t1 ∧ o2.dst = some t ∧ o1.guard = none ∧ o2.guard = none ∧ t1 < n ∧ idx t1 ks 0 = none ∧ t ∈ ks := by
  unfold mlQ at h
  split at h
  · rename_i id ops t' e' b
    split at h
    · rename_i o1 o2 ho
      split at h
      · rename_i x' h1
        split at h
        · rename_i y j h2
          split at h
          · rename_i t2
            split at h
            · rename_i t1 h3
              obtain ⟨⟨a1, a2, a3, a4, a5, a6, a7, a8⟩, h4⟩ := ite_some h
              simp only [Option.some.injEq, Prod.mk.injEq] at h4
              obtain ⟨rfl, rfl, rfl⟩ := h4
              subst a3 a4
              exact ⟨id, ops, b, o1, o2, t2, rfl, ho, h1, h2, h3, a5, a1, a2, a6, a7, a8⟩
            · cases h
          · cases h
        · cases h
      · cases h
    · cases h
  · cases h
theorem allN_ok {f : Nat → Bool} : ∀ {n : Nat}, allN n f = true → ∀ i, i < n → f i = true
  | 0, _, i, h => by omega
  | n + 1, hf, i, h => by
    replace hf : Bool.rec (motive := fun _ => Bool) false (allN n f) (f n) = true := hf
    cases e : f n with
    | false => rw [e] at hf; cases hf
    | true =>
      rw [e] at hf
      rcases Nat.lt_or_ge i n with q | q
      · exact allN_ok hf i q
      · have : i = n := by omega
        rw [this]; exact e
/-- What holds of a piece of code, run from where. -/
structure RunOk (P : Program) (n : Nat) (ks : List Nat) (c : CL) (code : Code) (x : CC) : Prop where
  ok : ∀ {N Rt : FK} {E : Nat → FK} {F : FT} {h : HP} {g : Gh} {w : World} {a : Act} {Q : Exit → Act → World → Prop} {r : AV × HP}, runC c x N Rt E F h = some r → WH h → RelF g (fr n ks [] 0 [] F) a → RelH g (asH h) w →
    (∀ F' h' g' a' w', Tq (wrt code) n ks g (asH h) w a F' g' h' a' w' → N F' h' = some r → Q .normal a' w') → (∀ F' h' g' a' w', Tq (wrt code) n ks g (asH h) w a F' g' h' a' w' → Rt F' h' = some r → Q .ret a' w') → (∀ id F' h' g' a' w', Tq (wrt code) n ks g (asH h) w a F' g' h' a' w' → E id F' h' = some r → Q (.exit id) a' w') → code.wp P Q a w
end Go.Proofs.YtlgdojkmbfbnjaaGreatDoor

namespace Go.Proofs.YtlgdojkmbfbnjaaGreatDoor
open Go.RowKit

section
variable {P : Program} {n : Nat} {ks : List Nat} {sc : List (Nat × List Nat)} {lf : Nat} {c : CL}
theorem hcur_as {h : HP} {k q m : Nat} {c0 : Option Nat} (wh : WH h) (hk : hget h k = .ir (some q) m c0) (cur : Option Nat) (d : Nat) : asH (hcur h k q m cur d) = (asH h).set k (.ir (some q) m cur) ∧ WH (hcur h k q m cur d) := by
  obtain ⟨h1, h2⟩ := as_set (o' := .ir (some q) m cur) wh hk (by simp) trivial
  exact ⟨h1, ⟨h2.ok, h2.lt⟩⟩
/-! Objects that came in the meantime are forgotten. -/
def Gh.cutN (g : Gh) (n : Nat) : Gh := ⟨g.h, fun k r => if k < n then g.s k r else none, g.cp, g.sn⟩
theorem allB_eq {α : Type} (f : α → Bool) : ∀ l : List α, allB f l = l.all f
  | [] => rfl
  | x :: l => by
    show (Bool.rec (motive := fun _ => Bool) false (allB f l) (f x)) = _
    rw [List.all_cons, allB_eq f l]
    cases f x <;> rfl
mutual
theorem V.cutN {n : Nat} {g : Gh} : ∀ (d : Nat) (x : AV) (v : Value), cloV n d x = true → V x g v → V x (g.cutN n) v
  | 0, _, _, h, _ => by cases h
  | d + 1, x, v, h, hv => by
    have s1 : ∀ {k r b}, Nat.blt k n = true → g.s k r = some b → (g.cutN n).s k r = some b := fun {k r b} hk hb => by
      rw [blt_iff] at hk
      show (if k < n then _ else _) = _
      rw [if_pos hk]; exact hb
    cases x with
    | top => rw [V]; trivial
    | vl _ => rw [V] at hv ⊢; exact hv
    | im _ _ => rw [V] at hv ⊢; exact hv
    | pi _ _ => rw [V] at hv ⊢; exact hv
    | ag l =>
      replace h : allB (cloV n d) l = true := h
      rw [allB_eq] at h
      rw [V] at hv ⊢
      obtain ⟨vs, e, s⟩ := hv
      exact ⟨vs, e, Vs.cutN d l vs (List.all_eq_true.1 h) s⟩
    | tu l =>
      replace h : allB (cloV n d) l = true := h
      rw [allB_eq] at h
      rw [V] at hv ⊢
      obtain ⟨vs, e, s⟩ := hv
      exact ⟨vs, e, Vs.cutN d l vs (List.all_eq_true.1 h) s⟩
    | fn f l =>
      replace h : allB (cloV n d) l = true := h
      rw [allB_eq] at h
      rw [V] at hv ⊢
      obtain ⟨vs, e, s⟩ := hv
      exact ⟨vs, e, Vs.cutN d l vs (List.all_eq_true.1 h) s⟩
    | fb f l =>
      replace h : allB (cloV n d) l = true := h
      rw [allB_eq] at h
      rw [V] at hv ⊢
      obtain ⟨vs, e, s⟩ := hv
      exact ⟨vs, e, Vs.cutN d l vs (List.all_eq_true.1 h) s⟩
    | rf c k r off m =>
      rw [V] at hv ⊢
      exact hv.imp id fun ⟨b, cap, hb, hr⟩ => ⟨b, cap, s1 h hb, hr⟩
    | rl c k r off m =>
      rw [V] at hv ⊢
      obtain ⟨b, o, hb, hr⟩ := hv
      exact ⟨b, o, s1 h hb, hr⟩
    | pt c k r i j =>
      rw [V] at hv ⊢
      obtain ⟨b, hb, hr⟩ := hv
      exact ⟨b, s1 h hb, hr⟩
    | mr k =>
      rw [V] at hv ⊢
      obtain ⟨b, hb, hr⟩ := hv
      exact ⟨b, s1 h hb, hr⟩
    | it k =>
      rw [V] at hv ⊢
      obtain ⟨b, hb, hr⟩ := hv
      exact ⟨b, s1 h hb, hr⟩
theorem Vs.cutN {n : Nat} {g : Gh} : ∀ (d : Nat) (l : List AV) (vs : List Value), (∀ x ∈ l, cloV n d x = true) → Vs l g vs → Vs l (g.cutN n) vs
  | d, [], vs, _, hv => by rw [Vs] at hv ⊢; exact hv
  | d, x :: l, vs, h, hv => by
    rw [Vs] at hv ⊢
    obtain ⟨v, r, e, a, b⟩ := hv
    exact ⟨v, r, e, V.cutN d x v (h x List.mem_cons_self) a, Vs.cutN d l r (fun y hy => h y (List.mem_cons_of_mem _ hy)) b⟩
end
theorem Vc.cutN {n c d : Nat} {g : Gh} : ∀ {l : List AV} {vs : List Value}, (∀ x ∈ l, cloV n d x = true) → Vc c l g vs → Vc c l (g.cutN n) vs
  | [], vs, _, hv => by rw [Vc] at hv ⊢; exact hv
  | x :: l, vs, h, hv => by
    rw [Vc] at hv ⊢
    obtain ⟨v, r, e, e2, a, b⟩ := hv
    exact ⟨v, r, e, e2, V.cutN d x v (h x List.mem_cons_self) a, Vc.cutN (fun y hy => h y (List.mem_cons_of_mem _ hy)) b⟩
theorem Ve.cutN {n d : Nat} {g : Gh} : ∀ {l : List (AV × AV)} {i : Nat} {es : List MapEntry}, (∀ x ∈ l, cloV n d x.1 = true ∧ cloV n d x.2 = true) → Ve l i g es → Ve l i (g.cutN n) es
  | [], _, _, _, hv => by rw [Ve] at hv ⊢; exact hv
  | x :: l, i, es, h, hv => by
    rw [Ve] at hv ⊢
    obtain ⟨e, r, a, b, c, d', f⟩ := hv
    have hx := h x List.mem_cons_self
    exact ⟨e, r, a, b, V.cutN d _ _ hx.1 c, V.cutN d _ _ hx.2 d', Ve.cutN (fun y hy => h y (List.mem_cons_of_mem _ hy)) f⟩
def cloA (n : Nat) : AO → Prop
  | .row _ _ l _ _ => ∀ x ∈ l, cloV n 20 x = true
  | .mp es => ∀ x ∈ es, cloV n 20 x.1 = true ∧ cloV n 20 x.2 = true
  | .ir m _ _ => (match m with | some q => q < n | none => True)
  | .no => True
theorem cloH_ok {h : HP} (hc : cloH h = true) : ∀ (j : Nat) o, (asH h)[j]? = some o → cloA h.n o := fun j o ho => by
  rw [asH_at] at ho
  obtain ⟨hj, ho⟩ := ite_some ho
  obtain rfl := Option.some.inj ho
  have := allN_ok hc j hj
  generalize hget h j = e at this ⊢
  cases e with
  | row T c m l live =>
    replace this : allB (cloV h.n 20) l = true := this
    rw [allB_eq] at this
    exact List.all_eq_true.1 this
  | mp es =>
    replace this : allB (fun p : AV × AV => bif cloV h.n 20 p.1 then cloV h.n 20 p.2 else false) es = true := this
    rw [allB_eq] at this
    intro x hx
    have := List.all_eq_true.1 this x hx
    cases q : cloV h.n 20 x.1 with
    | false => rw [q] at this; cases this
    | true => rw [q] at this; exact ⟨rfl, this⟩
  | ir m n cur =>
    cases m with
    | none => trivial
    | some q => exact (blt_iff _ _).1 this
  | no => trivial
theorem RelH.cutN {g : Gh} {H H' : AS} {w : World} (R : RelH g H' w) (hs : ∀ j, j < H.length → H'[j]? = H[j]?) (hc : ∀ (j : Nat) o, H[j]? = some o → cloA H.length o) : RelH (g.cutN H.length) H w := by
  have sc : ∀ {k r b}, (g.cutN H.length).s k r = some b → k < H.length ∧ g.s k r = some b := fun {k r b} e => by
    have e : (if k < H.length then g.s k r else none) = some b := e
    exact ite_some e
  refine ⟨R.im, fun k T c l live hf e b hb => ?_, fun k T c l live hf e r hr => ?_, fun k r k' r' b e1 e2 => R.inj _ _ _ _ _ (sc e1).2 (sc e2).2, fun k r b e => ⟨(sc e).1, (R.lo _ _ _ (sc e).2).2⟩, fun k o e b hb => ?_⟩
  · obtain ⟨hk, hb⟩ := sc hb
    obtain ⟨cs, h1, h2, h3, h4⟩ := R.ob k T c l live hf (by rw [hs k hk]; exact e) b hb
    refine ⟨cs, ?_, h2, h3, h4⟩
    cases hf
    · exact Vc.cutN (hc _ _ e) h1
    · exact h1
  · have hk := (List.getElem?_eq_some_iff.1 e).1
    have := R.ver k T c l live hf (by rw [hs k hk]; exact e) r hr
    show (if k < H.length then g.s k r else none) = none
    rw [if_pos hk]; exact this
  · obtain ⟨hk, hb⟩ := sc hb
    have h1 := R.mb k o (by rw [hs k hk]; exact e) b hb
    have h2 := hc _ _ e
    cases o with
    | mp es =>
      obtain ⟨l, q1, q2⟩ := h1
      exact ⟨l, q1, Ve.cutN h2 q2⟩
    | ir m n cur =>
      cases m with
      | none => exact h1
      | some q =>
        obtain ⟨bm, s, k1, k2⟩ := h1
        refine ⟨bm, s, ?_, k2⟩
        show (if q < H.length then g.s q 0 else none) = some bm
        rw [if_pos (show q < H.length from h2)]; exact k1
    | _ => trivial
theorem RelH.le_cut {g g' : Gh} {H : AS} {w : World} (R : RelH g H w) (q : g.le g') : g.le (g'.cutN H.length) := ⟨q.h, fun k r b e => by
  have hk := (R.lo k r b e).1
  obtain ⟨e1, e2⟩ := q.s k r b e
  refine ⟨?_, e2⟩
  show (if k < H.length then g'.s k r else none) = some b
  rw [if_pos hk]; exact e1, q.n⟩
theorem TX.cutN {g g' : Gh} {w w' : World} {n : Nat} (t : TX g w g' w') : TX g w (g'.cutN n) w' := ⟨t.tu, fun b ⟨k, r, e⟩ => by
  have e : (if k < n then g'.s k r else none) = some b := e
  exact t.nb b ⟨k, r, (ite_some e).2⟩, t.fz⟩
theorem EX.cutN {g g' : Gh} {H H' : AS} (x : EX g H g' H') (hs : ∀ j, j < H.length → H'[j]? = H[j]?) : EX g H (g'.cutN H.length) H := ⟨Nat.le_refl _, fun k T c l live hf e => by
  have hk := (List.getElem?_eq_some_iff.1 e).1
  obtain ⟨l', live', e1, e2, e3⟩ := x.2 k T c l live hf e
  refine ⟨l, live, e, Nat.le_refl _, fun _ r => ?_⟩
  rw [hs k hk, e] at e1
  simp only [Option.some.injEq, AO.row.injEq] at e1
  show (if k < H.length then g'.s k r else none) = _
  rw [if_pos hk]
  exact e3 (by rw [e1.2.2.1]) r⟩
/-- The second half of the step: the test. -/
theorem ext_ok (X : ExtOk P) (W0 : WE n ks [] 0) {ops : Array Oper} {o1 o2 : Oper} {t1 t : Nat} {p : Pa} {v : Bool} {l : List Value} {al : List AV} {F0 : FT} {g : Gh} {H : AS} {w : World} {a : Act} {Q : Exit → Act → World → Prop} (ho : ops.toList = [o1, o2]) (h2 : o2.op = .extract (.tmp t1) 0) (d1 : o1.dst = some t1) (d2 : o2.dst = some t) (g2 : o2.guard = none) (ht1 : t1 < n) (hi1 : idx t1 ks 0 = none) (hp : keep ks t = .kp p) (f : RelF g (fr n ks [] 0 [] F0) a) (R : RelH g H w) (hl : Vs al g l)
    (K : ∀ a', RelF g (fr n ks [] 0 [] (fset (.vl (.bool v)) F0 p)) a' → agr' (dsts ops) a a' → a'.eval (.tmp t) = .bool v → Q .normal a' w) : wpList P ops Q [o2] (a.put o1.dst (.tuple (.bool v :: l).toArray)) w := by
  have ht : t ∈ ks ∧ ∃ i, idx t ks 0 = some i ∧ p = pa 20 i := by
    unfold keep at hp
    split at hp
    · rename_i i hi; exact ⟨(idx_lt hi).1, i, hi, (Loc.kp.inj hp).symm⟩
    · cases hp
  obtain ⟨htk, i, hi, rfl⟩ := ht
  have htn := W0.kn t htk
  have hne : t1 ≠ t := fun e => by subst e; rw [hi] at hi1; cases hi1
  have f1 := f.setF (d := some t1) (x := .tu (.vl (.bool v) :: al)) (v := .tuple (.bool v :: l).toArray) (by rw [V]; exact ⟨_, rfl, by rw [Vs]; exact ⟨_, _, rfl, by rw [V], hl⟩⟩)
  rw [d1]
  have hv : valE P o2 (setF (fr n ks [] 0 [] F0) (some t1) (.tu (.vl (.bool v) :: al))) H = some (.vl (.bool v)) := by
    simp only [valE, h2]
    have : evA (setF (fr n ks [] 0 [] F0) (some t1) (.tu (.vl (.bool v) :: al))) (.tmp t1) = .tu (.vl (.bool v) :: al) := by
      show ((fr n ks [] 0 [] F0).set t1 _).getD t1 .top = _
      rw [List.getD_eq_getElem?_getD, List.getElem?_set_self (by rw [fr_len]; exact ht1)]; rfl
    rw [this]; rfl
  obtain ⟨vv, e1, e2⟩ := valE_ok X hv f1 R
  rw [V] at e2
  subst e2
  have f2 := f1.setF (d := some t) (x := .vl (.bool v)) (v := .bool v) (by rw [V])
  have hw := gdA_ok (ops := ops) (o := o2) (F := setF (fr n ks [] 0 [] F0) (some t1) (.tu (.vl (.bool v) :: al))) (b := true) (by unfold gdA; rw [g2]) f1
  rw [wpList, if_pos hw]
  refine .inl (ops_val e1 ?_)
  rw [d2]
  refine K _ ⟨f2.gl, f2.df, f2.sz.trans (by simp [setF, fr_len]), fun s x e => ?_⟩ ?_ ?_
  · rw [fr_get] at e
    obtain ⟨hs, e⟩ := ite_some e
    obtain rfl := Option.some.inj e
    rw [look_nil]
    have top : V .top g ((((a.put (some t1) (.tuple (.bool v :: l).toArray)).put (some t) (.bool v)).tmps).getD s undef) := by rw [V]; trivial
    cases hk : keep ks s with
    | cn v =>
      unfold keep at hk
      split at hk
      · cases hk
      · obtain rfl := Loc.cn.inj hk; exact top
    | st i =>
      unfold keep at hk
      split at hk <;> cases hk
    | kp p =>
      show V (fget (fset _ F0 (pa 20 i)) p) _ _
      rw [fget_set]
      by_cases hst : s = t
      · subst hst
        rw [hp] at hk
        rw [if_pos (Loc.kp.inj hk)]
        refine f2.at' s _ ?_
        show ((_ : List AV).set s _)[s]? = _
        rw [List.getElem?_set_self (by simp [setF, fr_len]; exact hs)]
      · have hpp : ¬ pa 20 i = p := fun e => hst (keep_kp W0.kl hi (by rw [hk, e]))
        have hs1 : t1 ≠ s := fun e => by
          subst e
          unfold keep at hk
          rw [hi1] at hk; cases hk
        rw [if_neg hpp]
        refine f2.at' s _ ?_
        show (((fr n ks [] 0 [] F0).set t1 _).set t _)[s]? = _
        rw [List.getElem?_set_ne (fun e => hst e.symm), List.getElem?_set_ne hs1, fr_get, if_pos hs, look_nil, hk]; rfl
  · have m1 : t1 ∈ dsts ops := dsts_ok o1 (by rw [ho]; simp) _ d1
    have m2 : t ∈ dsts ops := dsts_ok o2 (by rw [ho]; simp) _ d2
    have q1 := (agr'.rfl (D := dsts ops) (a := a)).put (d := some t1) (fun i e => by obtain rfl := Option.some.inj e; exact m1) (.tuple (.bool v :: l).toArray) a.defers
    exact q1.put (d := some t) (fun i e => by obtain rfl := Option.some.inj e; exact m2) (.bool v) a.defers
  · have := f2.at' t (.vl (.bool v)) (by
      show ((_ : List AV).set t _)[t]? = _
      rw [List.getElem?_set_self (by simp [setF, fr_len]; exact htn)])
    rw [V] at this
    exact this
theorem gotR_ok {x : R} (h : gotR x = true) : ∃ r, x = some r := by
  cases x with
  | none => cases h
  | some r => exact ⟨r, rfl⟩
theorem mlp_ok (X : ExtOk P) (W0 : WE n ks [] 0) {id e t1 t : Nat} {ops : Array Oper} {b : Code} {xb : CC} {o1 o2 : Oper} {x : Operand} {p : Pa} (ho : ops.toList = [o1, o2]) (h1 : o1.op = .next x false) (h2 : o2.op = .extract (.tmp t1) 0) (d1 : o1.dst = some t1) (d2 : o2.dst = some t) (g1 : o1.guard = none) (g2 : o2.guard = none) (ht1 : t1 < n) (hi1 : idx t1 ks 0 = none) (hp : keep ks t = .kp p) (hb : CCm c xb) (ih : RunOk P n ks c b xb)
    {E : Nat → FK} {F : FT} {h : HP} {g : Gh} {w : World} {a : Act} {Q : Exit → Act → World → Prop} {r : AV × HP} (hr : mlR (opV ks [] 0 x) p (pths ks (wrt (.seq (.region id ops false) (.seq (.cond (.tmp t) .skip (.exit e)) b)))) e (runC c xb) E F h = some r) (wh : WH h) (f : RelF g (fr n ks [] 0 [] F) a) (R : RelH g (asH h) w)
    (HE : ∀ id F' h' g' a' w', Tq (wrt (.seq (.region id ops false) (.seq (.cond (.tmp t) .skip (.exit e)) b))) n ks g (asH h) w a F' g' h' a' w' → E id F' h' = some r → Q (.exit id) a' w') : (Code.loop (.seq (.region id ops false) (.seq (.cond (.tmp t) .skip (.exit e)) b))).wp P Q a w := by
  obtain ⟨D, hD⟩ : ∃ D, D = wrt (.seq (.region id ops false) (.seq (.cond (.tmp t) .skip (.exit e)) b)) := ⟨_, rfl⟩
  have hD1 : ∀ i ∈ dsts ops, i ∈ D := fun i hi => by rw [hD]; exact List.mem_append_left _ hi
  have hD2 : ∀ i ∈ wrt b, i ∈ D := fun i hi => by rw [hD]; exact List.mem_append_right _ (List.mem_append_right _ hi)
  have HE' : ∀ id F' h' g' a' w', Tq D n ks g (asH h) w a F' g' h' a' w' → E id F' h' = some r → Q (.exit id) a' w' := fun id F' h' g' a' w' t' q => HE id F' h' g' a' w' (by rw [hD] at t'; exact t') q
  rw [← hD] at hr
  clear HE
  obtain ⟨F0, hF0⟩ : ∃ F0, F0 = topW F (pths ks D) := ⟨_, rfl⟩
  have top : ∀ g' a', g.le g' → a'.defers = [] → agr' D a a' → RelF g' (fr n ks [] 0 [] F0) a' := fun g' a' q df ag => by rw [hF0]; exact topW_rel f q df ag
  have hw : ∀ {F1 : FT} {g' : Gh} {a' : Act}, RelF g' (fr n ks [] 0 [] F1) a' → Region.wanted o1 (yielded ops a'.tmps) = true := fun f' => gdA_ok (b := true) (by unfold gdA; rw [g1]) f'
  unfold mlR at hr
  rw [← hF0, opV_eq W0] at hr
  split at hr
  · rename_i k hx
    split at hr
    · rename_i m nn cur hk
      split at hr
      · rename_i q
        split at hr
        · rename_i es hq
          obtain ⟨hc1, hE⟩ := cond_some hr
          rw [Bool.and_eq_true, Bool.and_eq_true, beq_iff, len_eq] at hc1
          obtain ⟨⟨hnn, hclo⟩, hall⟩ := hc1
          have ek := as_get wh hk (by simp)
          have eq := as_get wh hq (by simp)
          simp only [EO.ao] at ek eq
          have hqk : k ≠ q := fun e => by subst e; rw [ek] at eq; cases eq
          have hkl : k < (asH h).length := (List.getElem?_eq_some_iff.1 ek).1
          obtain ⟨H0, hH0⟩ : ∃ H0, H0 = (asH h).set k (.ir (some q) nn none) := ⟨_, rfl⟩
          have k0 : H0[k]? = some (.ir (some q) nn none) := by rw [hH0, List.getElem?_set_self hkl]
          have q0 : H0[q]? = some (.mp es) := by rw [hH0, List.getElem?_set_ne hqk]; exact eq
          have s0 : ∀ o, H0.set k o = (asH h).set k o := fun o => by rw [hH0, List.set_set]
          refine wp_loop_ghost (fun m a' w' => ∃ g', g.le g' ∧ RelF g' (fr n ks [] 0 [] F0) a' ∧ RelH g' H0 w' ∧ TX g w g' w' ∧ EX g (asH h) g' H0 ∧ agr' D a a' ∧ m = nn - g'.sn k) (nn - g.sn k) ⟨g, .rfl, top g a .rfl f.df .rfl, by rw [hH0]; exact R.weak ek, .rfl, by rw [hH0]; exact EX.ir ek, .rfl, rfl⟩ fun m a1 w1 ⟨g1', le1, f1, R1, tx1, ex1, ag1, hm1⟩ => ?_
          refine wp_seq (wp_region_list ?_)
          rw [ho, wpList, if_pos (hw f1)]
          refine .inl (nx_ok h1 hx k0 q0 hnn f1 R1 ?_ fun i g2' w2 kv vv hi le2 R2 tx2 ex2 ⟨bb, hbb⟩ sn2 snlt => ?_)
          · refine ext_ok (al := []) (l := []) X W0 ho h2 d1 d2 g2 ht1 hi1 hp f1 R1 (by rw [Vs]) fun a3 f3 ag3 hev => ?_
            refine wp_seq (wp_cond_split (t := false) hev (fun e => by cases e) fun _ => wp_exit ?_)
            obtain ⟨p1, p2⟩ := hcur_as wh hk none 0
            refine HE' e _ _ g1' a3 w1 ⟨le1, f3, ?_, tx1, ?_, p2, ag1.trans (ag3.mono hD1)⟩ hE
            · rw [p1, ← hH0]; exact R1
            · rw [p1, ← hH0]; exact ex1
          · refine ext_ok (al := [.top, .top]) (l := [kv, vv]) X W0 ho h2 d1 d2 g2 ht1 hi1 hp (f1.mono le2) R2 (by rw [Vs]; exact ⟨_, _, rfl, by rw [V]; trivial, by rw [Vs]; exact ⟨_, _, rfl, by rw [V]; trivial, by rw [Vs]⟩⟩) fun a3 f3 ag3 hev => ?_
            refine wp_seq (wp_cond_split (t := true) hev (fun _ => wp_skip ?_) fun e => by cases e)
            have hri := allN_ok hall i hi
            obtain ⟨p1, p2⟩ := hcur_as wh hk (some i) h.n
            rw [s0, ← p1] at R2 ex2
            obtain ⟨ri, hri⟩ := gotR_ok hri
            refine ih.ok hri p2 f3 R2 (fun F' h' g' a' w' t' qq => ?_) (fun F' h' g' a' w' t' qq => by cases qq) fun id F' h' g' a' w' t' qq => by cases qq
            have fin : h.n ≤ h'.n ∧ ∀ j, j < h.n → hget h' j = hget (hcur h k q nn (some i) h.n) j := by
              obtain ⟨F2, h2', z1, z2 | z2 | ⟨_, z2⟩⟩ := runC_m xb hb hri
              · unfold endM at qq z2
                obtain ⟨q1, q2⟩ := cond_some qq
                obtain ⟨z3, z4⟩ := cond_some z2
                have e1 := Option.some.inj (q2.trans z4.symm)
                simp only [Prod.mk.injEq, true_and] at e1
                subst e1
                rw [beq_iff] at q1
                obtain ⟨y1, y2, y3, y4⟩ := z1 (Nat.le_refl _)
                exact ⟨y2, fun j hj => y4 j (by rw [q1]; exact hj)⟩
              · cases z2
              · cases z2
            obtain ⟨fin1, fin2⟩ := fin
            obtain ⟨Hi, hHi⟩ : ∃ Hi, Hi = asH (hcur h k q nn (some i) h.n) := ⟨_, rfl⟩
            have hHl : Hi.length = h.n := by rw [hHi, asH_len]; rfl
            have same : ∀ j, j < Hi.length → (asH h')[j]? = Hi[j]? := fun j hj => by
              rw [hHl] at hj
              rw [hHi, asH_at, asH_at, if_pos (by omega), if_pos (show j < (hcur h k q nn (some i) h.n).n from hj), fin2 j hj]
            have ek2 : Hi[k]? = some (.ir (some q) nn (some i)) := by rw [hHi, p1, List.getElem?_set_self hkl]
            have back : Hi.set k (.ir (some q) nn none) = H0 := by rw [hHi, p1, List.set_set, hH0]
            have hclo2 : ∀ (j : Nat) o, Hi[j]? = some o → cloA Hi.length o := fun j o ho2 => by
              rw [hHl]
              rw [hHi, p1, List.getElem?_set] at ho2
              by_cases hkj : k = j
              · rw [if_pos hkj, if_pos hkl] at ho2
                obtain rfl := Option.some.inj ho2
                have := (List.getElem?_eq_some_iff.1 eq).1
                rw [asH_len] at this
                exact this
              · rw [if_neg hkj] at ho2
                exact cloH_ok hclo j o ho2
            rw [← hHi] at R2 ex2
            have agr2 : agr' D a a' := ag1.trans ((ag3.mono hD1).trans (t'.ag.mono hD2))
            have leA := le1.trans le2
            have leB := RelH.le_cut R2 (show g2'.le g' from t'.le)
            have hsn := t'.le.n k 0 bb hbb
            have R3 := t'.r.cutN same hclo2
            refine ⟨nn - g'.sn k, by omega, g'.cutN Hi.length, leA.trans leB, top _ a' (leA.trans leB) t'.f.df agr2, ?_, tx1.trans (tx2.trans t'.tx.cutN), ?_, agr2, rfl⟩
            · rw [← back]; exact R3.weak ek2
            · have ex3 : EX g2' Hi g' (asH h') := by rw [hHi]; exact t'.ex
              refine ex1.trans (ex2.trans ((ex3.cutN same).trans ?_))
              rw [← back]; exact EX.ir ek2
        · cases hr
      · have ek := as_get wh hk (by simp)
        simp only [EO.ao] at ek
        refine wp_loop_ghost (fun m a' w' => a' = a ∧ w' = w) 0 ⟨rfl, rfl⟩ fun m a1 w1 ⟨e1, e2⟩ => ?_
        subst e1 e2
        have f1 := top g a1 .rfl f.df .rfl
        refine wp_seq (wp_region_list ?_)
        rw [ho, wpList, if_pos (hw f1)]
        refine .inl (nx0_ok h1 hx ek f1 R ?_)
        refine ext_ok (al := []) (l := []) X W0 ho h2 d1 d2 g2 ht1 hi1 hp f1 R (by rw [Vs]) fun a3 f3 ag3 hev => ?_
        refine wp_seq (wp_cond_split (t := false) hev (fun e => by cases e) fun _ => wp_exit ?_)
        exact HE' e _ _ g a3 w1 ⟨.rfl, f3, R, .rfl, .rfl, wh, ag3.mono hD1⟩ hr
    · cases hr
  · cases hr
theorem runC_ok (X : ExtOk P) (hm : P.follows .mixedOrders = true) (hC : CLok P c) (hM : CLm c) (W0 : WE n ks [] 0) : ∀ code : Code, wfX P sc code = true → RunOk P n ks c code (cdC P n ks sc lf code)
  | .skip, _ => ⟨fun hr wh f R HN HR HE => wp_skip (HN _ _ _ _ _ ⟨.rfl, f, R, .rfl, .rfl, wh, .rfl⟩ hr)⟩
  | .label _, _ => ⟨fun hr wh f R HN HR HE => wp_label (HN _ _ _ _ _ ⟨.rfl, f, R, .rfl, .rfl, wh, .rfl⟩ hr)⟩
  | .exit id, _ => ⟨fun hr wh f R HN HR HE => wp_exit (HE _ _ _ _ _ _ ⟨.rfl, f, R, .rfl, .rfl, wh, .rfl⟩ hr)⟩
  | .ret, _ => ⟨fun hr wh f R HN HR HE => wp_ret (HR _ _ _ _ _ ⟨.rfl, f, R, .rfl, .rfl, wh, .rfl⟩ hr)⟩
  | .region id ops d, hw => ⟨@fun N Rt E F h g w a Q r hr wh f R HN HR HE => by
    obtain ⟨Q0, hQ⟩ : ∃ Q0 : Exit → Act → World → Prop, Q0 = fun e a' w' => e = Exit.normal ∧ ∃ F' h' g', g.le g' ∧ RelF g' (fr n ks [] 0 [] F') a' ∧ RelH g' (asH h') w' ∧ TX g w g' w' ∧ EX g (asH h) g' (asH h') ∧ WH h' ∧ N F' h' = some r := ⟨_, rfl⟩
    have key : ∀ F' H' g' a' w', g.le g' → RelF g' F' a' → RelH g' H' w' → TX g w g' w' → EX g (asH h) g' H' → EndR n ks N r F' H' → Q0 .normal a' w' := fun F' H' g' a' w' h1 h2 h3 h4 h5 ⟨en, dep, S, F2, h', e1, e2, e3, e4, e5⟩ => by
      subst e1 e3
      rw [hQ]
      exact ⟨rfl, F2, h', g', h1, fr_end e2 h2, h3, h4, h5, e4, e5⟩
    have fin : ∀ a' w', agr' (dsts ops) a a' → Q0 .normal a' w' → Q .normal a' w' := fun a' w' q k => by
      rw [hQ] at k
      obtain ⟨_, F', h', g', h1, h2, h3, h4, h5, h6, h7⟩ := k
      exact HN _ _ _ _ _ ⟨h1, h2, h3, h4, h5, h6, q⟩ h7
    have nn : ∀ e a' w', e ≠ .normal → Q0 e a' w' → Q e a' w' := fun e a' w' q k => by rw [hQ] at k; exact absurd k.1 q
    cases d
    · exact wp_region_list (wpList_agr nn fin dsts_ok .rfl (regG_ok (M := mE P X) (runL_ok hC W0 wh hr) f R key))
    · rw [wfX, Bool.not_true, Bool.false_or] at hw
      exact wp_region_any hm (wpAny_agr nn fin (fun i o ho => dsts_ok o (by
        rw [← Array.getElem?_toList] at ho
        exact List.mem_of_getElem? ho)) .rfl (regD_ok (M := mE P X) hw (runD_ok hC W0 wh (fun e he => by cases he) hr) f R key))⟩
  | .seq x y, hw => ⟨@fun N Rt E F h g w a Q r hr wh f R HN HR HE => by
    rw [wfX, Bool.and_eq_true] at hw
    have m1 : ∀ i ∈ wrt x, i ∈ wrt (.seq x y) := fun _ q => List.mem_append_left _ q
    have m2 : ∀ i ∈ wrt y, i ∈ wrt (.seq x y) := fun _ q => List.mem_append_right _ q
    refine wp_seq ((runC_ok X hm hC hM W0 x hw.1).ok hr wh f R (fun F1 h1 g1 a1 w1 t h1r => ?_) (fun F1 h1 g1 a1 w1 t h1r => HR _ _ _ _ _ (t.mono m1) h1r) fun id F1 h1 g1 a1 w1 t h1r => HE _ _ _ _ _ _ (t.mono m1) h1r)
    exact (runC_ok X hm hC hM W0 y hw.2).ok h1r t.wh t.f t.r (fun F2 h2 g2 a2 w2 t2 q => HN _ _ _ _ _ ((t.mono m1).trans (t2.mono m2)) q) (fun F2 h2 g2 a2 w2 t2 q => HR _ _ _ _ _ ((t.mono m1).trans (t2.mono m2)) q) fun id F2 h2 g2 a2 w2 t2 q => HE _ _ _ _ _ _ ((t.mono m1).trans (t2.mono m2)) q⟩
  | .cond z x y, hw => ⟨@fun N Rt E F h g w a Q r hr wh f R HN HR HE => by
    rw [wfX, Bool.and_eq_true] at hw
    have m1 : ∀ i ∈ wrt x, i ∈ wrt (.cond z x y) := fun _ q => List.mem_append_left _ q
    have m2 : ∀ i ∈ wrt y, i ∈ wrt (.cond z x y) := fun _ q => List.mem_append_right _ q
    replace hr : cdK ((opV ks [] 0 z).f [] F) (runC c (cdC P n ks sc lf x) N Rt E F h) (runC c (cdC P n ks sc lf y) N Rt E F h) = some r := hr
    rw [opV_eq W0] at hr
    unfold cdK at hr
    split at hr
    · rename_i v e
      split at hr
      · rename_i b
        have hv := f.ev z
        rw [e, V] at hv
        cases b
        · exact wp_cond_split hv (fun q => by cases q) fun _ => (runC_ok X hm hC hM W0 y hw.2).ok hr wh f R (fun F1 h1 g1 a1 w1 t => HN _ _ _ _ _ (t.mono m2)) (fun F1 h1 g1 a1 w1 t => HR _ _ _ _ _ (t.mono m2)) fun id F1 h1 g1 a1 w1 t => HE _ _ _ _ _ _ (t.mono m2)
        · exact wp_cond_split hv (fun _ => (runC_ok X hm hC hM W0 x hw.1).ok hr wh f R (fun F1 h1 g1 a1 w1 t => HN _ _ _ _ _ (t.mono m1)) (fun F1 h1 g1 a1 w1 t => HR _ _ _ _ _ (t.mono m1)) fun id F1 h1 g1 a1 w1 t => HE _ _ _ _ _ _ (t.mono m1)) fun q => by cases q
      · cases hr
    · cases hr⟩
  | .block id b, hw => ⟨@fun N Rt E F h g w a Q r hr wh f R HN HR HE => by
    rw [wfX] at hw
    refine wp_block ((runC_ok X hm hC hM W0 b hw).ok (N := N) (Rt := Rt) (E := exB id N E) hr wh f R (fun F1 h1 g1 a1 w1 t h1r => HN _ _ _ _ _ t h1r) (fun F1 h1 g1 a1 w1 t h1r => HR _ _ _ _ _ t h1r) fun j F1 h1 g1 a1 w1 t h1r => ?_)
    show if j = id then _ else _
    unfold exB at h1r
    cases q : Nat.beq j id with
    | true =>
      rw [q] at h1r
      rw [beq_iff] at q
      rw [if_pos q]
      exact HN _ _ _ _ _ t h1r
    | false =>
      rw [q] at h1r
      rw [if_neg (fun e => by rw [← beq_iff, q] at e; cases e)]
      exact HE _ _ _ _ _ _ t h1r⟩
  | .scope b, hw => ⟨@fun N Rt E F h g w a Q r hr wh f R HN HR HE => by
    rw [wfX] at hw
    exact wp_scope_straight ((runC_ok X hm hC hM W0 b hw).ok hr wh f R (fun F1 h1 g1 a1 w1 t h1r => HN _ _ _ _ _ t h1r) (fun F1 h1 g1 a1 w1 t h1r => HR _ _ _ _ _ t h1r) fun j F1 h1 g1 a1 w1 t h1r => HE _ _ _ _ _ _ t h1r)⟩
  | .loop b, hw => ⟨@fun N Rt E F h g w a Q r hr wh f R HN HR HE => by
    rw [wfX] at hw
    replace hr : runC c (cdM ks lf (mlQ n ks b) (wrt b) (cdC P n ks sc lf b)) N Rt E F h = some r := hr
    cases hq : mlQ n ks b with
    | none =>
      rw [hq] at hr
      obtain ⟨it, hit⟩ : ∃ it : Nat → FK, it = fun m => Nat.rec (fun _ _ => none) (fun _ ih => runC c (cdC P n ks sc lf b) ih Rt E) m := ⟨_, rfl⟩
      replace hr : it lf F h = some r := by rw [hit]; exact hr
      refine wp_loop_ghost (fun m a' w' => ∃ F' h' g', Tq (wrt b) n ks g (asH h) w a F' g' h' a' w' ∧ it m F' h' = some r) lf ⟨F, h, g, ⟨.rfl, f, R, .rfl, .rfl, wh, .rfl⟩, hr⟩ fun m a1 w1 ⟨F1, h1, g1, t, q⟩ => ?_
      cases m with
      | zero => rw [hit] at q; cases q
      | succ m =>
        have q : runC c (cdC P n ks sc lf b) (it m) Rt E F1 h1 = some r := by rw [hit] at q ⊢; exact q
        exact (runC_ok X hm hC hM W0 b hw).ok q t.wh t.f t.r (fun F2 h2 g2 a2 w2 t2 q2 => ⟨m, Nat.lt_succ_self m, F2, h2, g2, t.trans t2, q2⟩) (fun F2 h2 g2 a2 w2 t2 q2 => HR _ _ _ _ _ (t.trans t2) q2) fun j F2 h2 g2 a2 w2 t2 q2 => HE _ _ _ _ _ _ (t.trans t2) q2
    | some q =>
      obtain ⟨x, t, e⟩ := q
      have ihb := runC_ok X hm hC hM W0 b hw
      obtain ⟨id, ops, b1, o1, o2, t1, e0, ho, h1, h2, d1, d2, g1, g2, ht1, hi1, htk⟩ := mlQ_ok hq
      rw [hq] at hr
      have hlt : SizeOf.sizeOf b1 < SizeOf.sizeOf (Code.loop b) := by rw [e0]; simp; omega
      subst e0
      replace hr : runC c (match keep ks t with
        | .kp p => .mlp (opV ks [] 0 x) p (pths ks (wrt (.seq (.region id ops false) (.seq (.cond (.tmp t) .skip (.exit e)) b1)))) e (cdC P n ks sc lf b1)
        | _ => .bad) N Rt E F h = some r := hr
      split at hr
      · rename_i p hp
        rw [wfX, Bool.and_eq_true] at hw
        obtain ⟨_, hw2⟩ := hw
        rw [wfX, Bool.and_eq_true] at hw2
        exact mlp_ok X W0 ho h1 h2 d1 d2 g1 g2 ht1 hi1 hp (cdC_m hM b1) (runC_ok X hm hC hM W0 b1 hw2.2) hr wh f R HE
      · cases hr⟩
  | .rangeFunc .., _ => ⟨fun hr wh f R HN HR HE => by cases hr⟩
  | .goto _, _ => ⟨fun hr wh f R HN HR HE => by cases hr⟩
  | .refuse _, _ => ⟨fun hr wh f R HN HR HE => by cases hr⟩
  termination_by code => SizeOf.sizeOf code
end
end Go.Proofs.YtlgdojkmbfbnjaaGreatDoor

namespace Go.Proofs.YtlgdojkmbfbnjaaGreatDoor
open Go.RowKit

/-! A function: its parameters, its results. -/
structure RX where
  f : FT → HP → Option AV
noncomputable def rsX (P : Program) (ks : List Nat) (v : ResultVar) : RX := match v with
  | .tmp t => ⟨fun F _ => some ((xL 0 (look ks [] t)).f [] F)⟩
  | .cell a t => (match tyA P t with
    | some s => if 0 < s.1 then ⟨fun F H => rdF H ((xL 0 (look ks [] a)).f [] F) s.1 s.2⟩ else ⟨fun _ _ => none⟩
    | none => ⟨fun _ _ => none⟩)
noncomputable def rsL (F : FT) (H : HP) (l : List RX) : Option (List AV) := List.rec (some []) (fun g _ ih => match g.f F H with
  | some x => (match ih with | some m => some (x :: m) | none => none)
  | none => none) l
def rsR (l : List AV) : AV := match l with
  | [x] => x
  | l => .tu l
def rs4 : List ResultVar → Bool
  | [] => true
  | [_] => true
  | [_, _] => true
  | [_, _, _] => true
  | [_, _, _, _] => true
  | _ => false
noncomputable def pth (ks : List Nat) (i : Nat) : Option Pa := match keep ks i with
  | .kp p => some p
  | _ => none
noncomputable def argF (l : List AV) : List (Option Pa) → FT → FT := List.rec (fun _ F => F) (fun x _ ih ps F => match ps with
  | [] => F
  | p :: ps => (match p with
    | some p => ih ps (fset x F p)
    | none => ih ps F)) l
section
variable {P : Program} {n : Nat} {ks : List Nat}
theorem rsX_ok {v : ResultVar} {F : FT} {H : HP} {x : AV} (W0 : WE n ks [] 0) (W : WH H) (h : (rsX P ks v).f F H = some x) : res1 P (fr n ks [] 0 [] F) (asH H) v = some x := by
  unfold rsX at h
  unfold res1
  split at h
  · rename_i t
    have h : some ((xL 0 (look ks [] t)).f [] F) = some x := h
    rw [xL_eq, tv_eq W0] at h
    exact h
  · rename_i a t
    split at h
    · rename_i s hs
      split at h
      · rename_i h0
        have h : rdF H ((xL 0 (look ks [] a)).f [] F) s.1 s.2 = some x := h
        rw [xL_eq, tv_eq W0] at h
        simp only [hs]
        exact rdF_ok W h0 h
      · cases h
    · cases h
theorem rsL_cons {F : FT} {H : HP} {g : RX} {l : List RX} {m : List AV} (h : rsL F H (g :: l) = some m) : ∃ x m', g.f F H = some x ∧ rsL F H l = some m' ∧ m = x :: m' := by
  replace h : (match g.f F H with
    | some x => (match rsL F H l with | some m => some (x :: m) | none => none)
    | none => none) = some m := h
  split at h
  · rename_i x hx
    split at h
    · rename_i m' hm
      exact ⟨x, m', hx, hm, (Option.some.inj h).symm⟩
    · cases h
  · cases h
theorem rsL_ok {F : FT} {H : HP} (W0 : WE n ks [] 0) (W : WH H) {rs : List ResultVar} {m : List AV} (h4 : rs4 rs = true) (h : rsL F H (rs.map (rsX P ks)) = some m) : resA P (fr n ks [] 0 [] F) (asH H) rs = some (rsR m) := by
  unfold rs4 at h4
  split at h4
  · obtain rfl := Option.some.inj h; rfl
  · obtain ⟨x, m1, h1, ha, rfl⟩ := rsL_cons h
    obtain rfl := Option.some.inj ha
    exact rsX_ok W0 W h1
  · obtain ⟨x, m1, h1, ha, rfl⟩ := rsL_cons h
    obtain ⟨y, m2, h2, hb, rfl⟩ := rsL_cons ha
    obtain rfl := Option.some.inj hb
    simp only [resA, rsX_ok W0 W h1, rsX_ok W0 W h2]; rfl
  · obtain ⟨x, m1, h1, ha, rfl⟩ := rsL_cons h
    obtain ⟨y, m2, h2, hb, rfl⟩ := rsL_cons ha
    obtain ⟨z, m3, h3, hc, rfl⟩ := rsL_cons hb
    obtain rfl := Option.some.inj hc
    simp only [resA, rsX_ok W0 W h1, rsX_ok W0 W h2, rsX_ok W0 W h3]; rfl
  · obtain ⟨x, m1, h1, ha, rfl⟩ := rsL_cons h
    obtain ⟨y, m2, h2, hb, rfl⟩ := rsL_cons ha
    obtain ⟨z, m3, h3, hc, rfl⟩ := rsL_cons hb
    obtain ⟨u, m4, h5, hd, rfl⟩ := rsL_cons hc
    obtain rfl := Option.some.inj hd
    simp only [resA, rsX_ok W0 W h1, rsX_ok W0 W h2, rsX_ok W0 W h3, rsX_ok W0 W h5]; rfl
  · cases h4
theorem argF_get (hl : ks.length < 1048576) {t : Nat} {i : Nat} (hi : idx t ks 0 = some i) : ∀ (l : List AV) (k m : Nat) (F : FT), l.length ≤ m → fget (argF l ((List.range' k m).map (pth ks)) F) (pa 20 i) = if k ≤ t ∧ t < k + l.length then l.getD (t - k) .top else fget F (pa 20 i)
  | [], k, m, F, h => by
    rw [if_neg (by simp)]; rfl
  | x :: l, k, m + 1, F, h => by
    rw [List.range'_succ, List.map_cons]
    have ht : keep ks t = .kp (pa 20 i) := by unfold keep; rw [hi]
    have step : ∀ F', argF (x :: l) (pth ks k :: (List.range' (k + 1) m).map (pth ks)) F = argF l ((List.range' (k + 1) m).map (pth ks)) F' → fget F' (pa 20 i) = (if k = t then x else fget F (pa 20 i)) → fget (argF (x :: l) (pth ks k :: (List.range' (k + 1) m).map (pth ks)) F) (pa 20 i) = if k ≤ t ∧ t < k + (x :: l).length then (x :: l).getD (t - k) .top else fget F (pa 20 i) := fun F' e1 e2 => by
      rw [e1, argF_get hl hi l (k + 1) m F' (by simp at h; omega), e2]
      simp only [List.length_cons]
      by_cases h1 : k = t
      · subst h1
        rw [if_neg (by omega), if_pos rfl, if_pos (by omega)]; simp
      · rw [if_neg h1]
        by_cases h2 : k + 1 ≤ t ∧ t < k + 1 + l.length
        · rw [if_pos h2, if_pos (by omega), show t - k = (t - (k + 1)) + 1 by omega]; rfl
        · rw [if_neg h2, if_neg (by omega)]
    cases hp : pth ks k with
    | some p =>
      rw [hp] at step
      refine step (fset x F p) rfl ?_
      rw [fget_set]
      have hk : keep ks k = .kp p := by
        unfold pth at hp
        split at hp
        · rename_i e; rw [e, Option.some.inj hp]
        · cases hp
      by_cases h1 : k = t
      · subst h1
        rw [ht] at hk
        rw [if_pos (Loc.kp.inj hk).symm, if_pos rfl]
      · rw [if_neg (fun e => h1 (by subst e; exact keep_kp hl hi hk)), if_neg h1]
    | none =>
      rw [hp] at step
      refine step F rfl ?_
      rw [if_neg]
      rintro rfl
      unfold pth at hp
      rw [ht] at hp
      cases hp
  | x :: l, k, 0, F, h => by simp at h
theorem argF_ini {xs : List AV} {g : Gh} {a : Act} {m : Nat} (W0 : WE n ks [] 0) (hm : xs.length ≤ m) (hn : xs.length ≤ n) (f : RelF g (xs ++ topN (n - xs.length)) a) : RelF g (fr n ks [] 0 [] (argF xs ((List.range' 0 m).map (pth ks)) .e)) a := by
  refine ⟨f.gl, f.df, f.sz.trans (by rw [fr_len, topN_eq]; simp; omega), fun t x e => ?_⟩
  rw [fr_get] at e
  obtain ⟨ht, e⟩ := ite_some e
  obtain rfl := Option.some.inj e
  cases hk : idx t ks 0 with
  | none =>
    have : look ks [] t = .cn .top := by rw [look_nil]; unfold keep; rw [hk]
    rw [this]
    show V .top _ _
    rw [V]; trivial
  | some i =>
    have e1 : look ks [] t = .kp (pa 20 i) := by rw [look_nil]; unfold keep; rw [hk]
    rw [e1]
    show V (fget _ (pa 20 i)) _ _
    rw [argF_get W0.kl hk xs 0 m .e hm]
    split
    · rename_i h
      have h2 := f.at' t (xs.getD (t - 0) .top) (by
        rw [List.getElem?_append_left (by omega), Nat.sub_zero, List.getD_eq_getElem?_getD, List.getElem?_eq_getElem (by omega)]; rfl)
      exact h2
    · show V (fget .e _) _ _
      have : fget .e (pa 20 i) = .top := rfl
      rw [this, V]; trivial
end
end Go.Proofs.YtlgdojkmbfbnjaaGreatDoor

namespace Go.Proofs.YtlgdojkmbfbnjaaGreatDoor
open Go.RowKit

structure FE where
  c : CC
  res : List RX
  ar : List (Option Pa)
  n : Nat
/-- What is said ahead of a function: its kept slots, the orders of its drawn regions. -/
structure Hint where
  ks : Nat → List Nat
  sc : Nat → List (Nat × List Nat)
noncomputable def fe (P : Program) (T : Hint) (lf : Nat) (f : Nat) : FE := match P.funcs[f]? with
  | none => ⟨.bad, [], [], 0⟩
  | some fn => (match fn.body with
    | none => ⟨.bad, [], [], 0⟩
    | some b => ⟨cdC P fn.ntmps (T.ks f) (T.sc f) lf b, fn.results.toList.map (rsX P (T.ks f)), (List.range' 0 fn.ntmps).map (pth (T.ks f)), fn.ntmps⟩)
noncomputable def finK (l : List RX) (k : KV) : FK := fun F H => match rsL F H l with
  | some m => k (rsR m) H
  | none => none
noncomputable def runF (fs : Nat → FE) (c : CL) : CL := fun f xs H k => bif Nat.ble (len xs) (fs f).n then runC c (fs f).c (finK (fs f).res k) (finK (fs f).res k) (fun _ _ _ => none) (argF xs (fs f).ar .e) H else none
noncomputable def callF (fs : Nat → FE) (d : Nat) : CL := Nat.rec (fun _ _ _ _ => none) (fun _ ih => runF fs ih) d
def okF (P : Program) (T : Hint) (f : Nat) : Bool := match P.funcs[f]? with
  | none => true
  | some fn => (match fn.body with
    | none => true
    | some b => wfX P (T.sc f) b && (T.ks f).all (fun t => Nat.blt t fn.ntmps) && Nat.blt (T.ks f).length 1048576 && rs4 fn.results.toList && enterOk P f)
theorem runC_bad {c : CL} {N Rt : FK} {E : Nat → FK} {F : FT} {h : HP} : runC c .bad N Rt E F h = none := rfl
section
variable {P : Program} {T : Hint} {lf : Nat} {c : CL}
theorem runF_m (hM : CLm c) : CLm (runF (fe P T lf) c) := fun f xs H k r hr => by
  unfold runF at hr
  obtain ⟨hlen, h1⟩ := cond_some hr
  have hm : CCm c (fe P T lf f).c := by
    unfold fe
    split
    · trivial
    · split
      · trivial
      · exact cdC_m hM _
  have fin : ∀ F' h', finK (fe P T lf f).res k F' h' = some r → ∃ x, k x h' = some r := fun F' h' q => by
    unfold finK at q
    split at q
    · exact ⟨_, q⟩
    · cases q
  obtain ⟨F', h', q1, q2 | q2 | ⟨_, q2⟩⟩ := runC_m _ hm h1
  · obtain ⟨x, q3⟩ := fin _ _ q2
    exact ⟨x, h', q1, q3⟩
  · obtain ⟨x, q3⟩ := fin _ _ q2
    exact ⟨x, h', q1, q3⟩
  · cases q2
theorem callF_m : ∀ d, CLm (callF (fe P T lf) d)
  | 0 => fun f xs H k r hr => by cases hr
  | d + 1 => runF_m (callF_m d)
theorem runF_ok (X : ExtOk P) (hm : P.follows .mixedOrders = true) (ok : ∀ f, okF P T f = true) (hC : CLok P c) (hM : CLm c) : CLok P (runF (fe P T lf) c) := fun f xs H k r wh hr => by
  unfold runF at hr
  obtain ⟨hlen, hr⟩ := cond_some hr
  rw [ble_iff, len_eq] at hlen
  have hf := ok f
  unfold okF at hf
  unfold fe at hr hlen
  split at hf
  · rename_i e
    rw [e] at hr
    cases hr
  · rename_i fn e
    split at hf
    · rename_i e2
      simp only [e, e2] at hr
      cases hr
    · rename_i b e2
      simp only [e, e2] at hr hlen
      simp only [Bool.and_eq_true, List.all_eq_true, blt_iff] at hf
      obtain ⟨⟨⟨⟨f1, f2⟩, f3⟩, f4⟩, f5⟩ := hf
      have W0 : WE fn.ntmps (T.ks f) [] 0 := ⟨f2, f3, fun p hp => (by cases hp), fun p hp => (by cases hp)⟩
      refine ⟨f5, fun g w vs R hg hv => ?_⟩
      have hl := hv.len
      have fr0 : RelF g (fr fn.ntmps (T.ks f) [] 0 [] (argF xs ((List.range' 0 fn.ntmps).map (pth (T.ks f))) .e)) { tmps := vs.toArray ++ Array.replicate (fn.ntmps - vs.length) undef, defers := [] } := by
        refine argF_ini W0 hlen hlen ?_
        have := RelF.ini hg hv (fn.ntmps - xs.length)
        rw [hl]; exact this
      have fin : ∀ a0 F' h' g' a' w', Tq (wrt b) fn.ntmps (T.ks f) g (asH H) w a0 F' g' h' a' w' → finK (fn.results.toList.map (rsX P (T.ks f))) k F' h' = some r → ∀ ex, (ex = .normal ∨ ex = .ret) → bodyPost P fn (CPost g (asH H) w fun x H' => ∃ h', asH h' = H' ∧ WH h' ∧ k x h' = some r) ex a' w' := fun a0 F' h' g' a' w' t q ex hex => by
        unfold finK at q
        split at q
        · rename_i m hm2
          have h1 := rsL_ok W0 t.wh f4 hm2
          obtain ⟨v, p1, p2⟩ := results_ok h1 t.f t.r
          have post : a'.defers = [] ∧ ∃ v, (results fn a'.tmps).run P w' = .ok v w' ∧ CPost g (asH H) w (fun x H' => ∃ h', asH h' = H' ∧ WH h' ∧ k x h' = some r) (.returned v) w' := ⟨t.f.df, v, p1, v, rsR m, asH h', g', rfl, t.le, t.r, t.tx, p2, t.ex, h', rfl, t.wh, q⟩
          rcases hex with rfl | rfl <;> exact post
        · cases q
      refine calls_of_wp e e2 ((runC_ok X hm hC hM W0 b f1).ok hr wh (a := ⟨_, _⟩) (by simpa using fr0) R (fun F' h' g' a' w' t q => fin _ F' h' g' a' w' t q _ (.inl rfl)) (fun F' h' g' a' w' t q => fin _ F' h' g' a' w' t q _ (.inr rfl)) fun id F' h' g' a' w' t q => by cases q)
theorem callF_ok (X : ExtOk P) (hm : P.follows .mixedOrders = true) (ok : ∀ f, okF P T f = true) : ∀ d, CLok P (callF (fe P T lf) d)
  | 0 => fun f xs H k r _ hr => by cases hr
  | d + 1 => runF_ok X hm ok (callF_ok X hm ok d) (callF_m d)
end
end Go.Proofs.YtlgdojkmbfbnjaaGreatDoor

namespace Go.Proofs.YtlgdojkmbfbnjaaGreatDoor
open Go.RowKit

/-! At a function's end everything is taken for unchanging. -/
def kill : AO → AO
  | .row T c l _ hf => .row T c l false hf
  | o => o
def killN (H : AS) : Nat → AS
  | 0 => H
  | n + 1 => match H[n]? with
    | some o => (killN H n).set n (kill o)
    | none => killN H n
theorem killN_len (H : AS) : ∀ n, (killN H n).length = H.length
  | 0 => rfl
  | n + 1 => by
    rw [killN]
    split
    · rw [List.length_set, killN_len H n]
    · exact killN_len H n
theorem killN_at (H : AS) : ∀ n k, (killN H n)[k]? = if k < n then (H[k]?).map kill else H[k]?
  | 0, k => by simp [killN]
  | n + 1, k => by
    have ih := killN_at H n k
    rw [killN]
    split
    · rename_i o ho
      have hn : n < H.length := (List.getElem?_eq_some_iff.1 ho).1
      rw [List.getElem?_set, killN_len]
      by_cases h : n = k
      · subst h
        rw [if_pos rfl, if_pos hn, if_pos (by omega), ho]; rfl
      · rw [if_neg h, ih]
        by_cases h2 : k < n
        · rw [if_pos h2, if_pos (by omega)]
        · rw [if_neg h2, if_neg (by omega)]
    · rename_i ho
      rw [ih]
      by_cases h2 : k < n
      · rw [if_pos h2, if_pos (by omega)]
      · rw [if_neg h2]
        by_cases h3 : k = n
        · subst h3
          rw [if_pos (by omega), ho]; rfl
        · rw [if_neg (by omega)]
theorem RelH.dead {g : Gh} {H : AS} {w : World} (R : RelH g H w) {k : Nat} {T : TypeId} {c : Nat} {l : List AV} {live hf : Bool} (e : H[k]? = some (.row T c l live hf)) (hs : g.s k l.length = none) : RelH g (H.set k (.row T c l false hf)) w := by
  have hk : k < H.length := (List.getElem?_eq_some_iff.1 e).1
  have ne : ∀ k1 o, (H.set k (.row T c l false hf))[k1]? = some o → (k1 = k ∧ o = .row T c l false hf) ∨ H[k1]? = some o := fun k1 o e1 => by
    by_cases h : k1 = k
    · subst h
      rw [List.getElem?_set_self hk] at e1
      exact .inl ⟨rfl, (Option.some.inj e1).symm⟩
    · rw [List.getElem?_set_ne (fun q => h q.symm)] at e1; exact .inr e1
  refine ⟨R.im, fun k1 T1 c1 l1 live1 hf1 e1 b1 hb1 => ?_, fun k1 T1 c1 l1 live1 hf1 e1 r hr => ?_, R.inj, fun k1 r1 b1 e1 => by rw [List.length_set]; exact R.lo _ _ _ e1, fun k1 o e1 b hb => ?_⟩
  · rcases ne _ _ e1 with ⟨rfl, h⟩ | h
    · simp only [AO.row.injEq] at h
      obtain ⟨rfl, rfl, rfl, rfl, rfl⟩ := h
      rw [hs] at hb1; cases hb1
    · exact R.ob _ _ _ _ _ _ h b1 hb1
  · rcases ne _ _ e1 with ⟨rfl, h⟩ | h
    · simp only [AO.row.injEq] at h
      obtain ⟨rfl, rfl, rfl, rfl, rfl⟩ := h
      exact R.ver _ _ _ _ _ _ e r hr
    · exact R.ver _ _ _ _ _ _ h r hr
  · rcases ne _ _ e1 with ⟨rfl, rfl⟩ | h
    · trivial
    · exact R.mb _ _ h _ hb
theorem RelH.killAt {g : Gh} {H : AS} {w : World} (R : RelH g H w) {k : Nat} {o : AO} (e : H[k]? = some o) : ∃ g', g.le g' ∧ RelH g' (H.set k (kill o)) w ∧ Gz g g' := by
  have same : kill o = o → ∃ g', g.le g' ∧ RelH g' (H.set k (kill o)) w ∧ Gz g g' := fun h => ⟨g, .rfl, by
    have : H.set k (kill o) = H := by
      apply List.ext_getElem?
      intro j
      rw [h, List.getElem?_set]
      by_cases q : k = j
      · subst q
        have := (List.getElem?_eq_some_iff.1 e).1
        rw [if_pos rfl, if_pos this, e]
      · rw [if_neg q]
    rw [this]; exact R, .rfl⟩
  cases o with
  | row T c l live hf =>
    cases live
    · exact same rfl
    · cases hb : g.s k l.length with
      | none => exact ⟨g, .rfl, R.dead e hb, .rfl⟩
      | some b =>
        obtain ⟨q1, q2, _⟩ := R.gr e hb
        exact ⟨_, q1, q2, ⟨fun _ _ => rfl, fun b1 => by
          show (if _ then _ else _) = _ ∨ _
          split
          · subst_vars; exact .inr ⟨k, _, hb⟩
          · exact .inl rfl⟩⟩
  | no => exact same rfl
  | mp es => exact same rfl
  | ir m n cur => exact same rfl
theorem RelH.killN {g : Gh} {H : AS} {w : World} (R : RelH g H w) : ∀ n, ∃ g', g.le g' ∧ RelH g' (killN H n) w ∧ Gz g g'
  | 0 => ⟨g, .rfl, R, .rfl⟩
  | n + 1 => by
    obtain ⟨g1, h1, h2, h3⟩ := RelH.killN R n
    rw [Go.Proofs.YtlgdojkmbfbnjaaGreatDoor.killN]
    split
    · rename_i o ho
      have e : (Go.Proofs.YtlgdojkmbfbnjaaGreatDoor.killN H n)[n]? = some o := by rw [killN_at, if_neg (by omega)]; exact ho
      obtain ⟨g2, q1, q2, q3⟩ := h2.killAt e
      exact ⟨g2, h1.trans q1, q2, h3.trans q3⟩
    · exact ⟨g1, h1, h2, h3⟩
theorem RelH.kills {g : Gh} {H : AS} {w : World} (R : RelH g H w) : ∃ g' H', g.le g' ∧ RelH g' H' w ∧ Gz g g' ∧ ∀ (k : Nat) T c l live hf, H[k]? = some (AO.row T c l live hf) → H'[k]? = some (AO.row T c l false hf) := by
  obtain ⟨g', h1, h2, h3⟩ := R.killN H.length
  refine ⟨g', _, h1, h2, h3, fun k T c l live hf e => ?_⟩
  rw [killN_at, if_pos (List.getElem?_eq_some_iff.1 e).1, e]; rfl
/-! A value without objects, as deep as it goes. -/
noncomputable def mapO (f : AV → Option AV) (l : List AV) : Option (List AV) := List.rec (some []) (fun x _ ih => match f x with
  | some y => (match ih with | some m => some (y :: m) | none => none)
  | none => none) l
theorem mapO_cons {f : AV → Option AV} {x : AV} {l m : List AV} (h : mapO f (x :: l) = some m) : ∃ y m', f x = some y ∧ mapO f l = some m' ∧ m = y :: m' := by
  replace h : (match f x with
    | some y => (match mapO f l with | some m => some (y :: m) | none => none)
    | none => none) = some m := h
  split at h
  · rename_i y hy
    split at h
    · rename_i m' hm
      exact ⟨y, m', hy, hm, (Option.some.inj h).symm⟩
    · cases h
  · cases h
noncomputable def fzR (chk : Bool) (ih : AV → Option AV) (o : EO) (c r off n : Nat) : Option AV := match o with
  | .row _ c' m l live => bif (!(chk && live) && Nat.beq c' c && Nat.beq r m && Nat.ble (off + n) m) then (match mapO ih (tk n (drp off l)) with | some l' => some (.im c l') | none => none) else none
  | _ => none
noncomputable def fzV (chk : Bool) (H : HP) (d : Nat) : AV → Option AV := Nat.rec (fun _ => none) (fun _ ih x => match x with
  | .top => some .top
  | .vl v => some (.vl v)
  | .im c l => some (.im c l)
  | .pi e j => some (.pi e j)
  | .ag l => (match mapO ih l with | some m => some (.ag m) | none => none)
  | .tu l => (match mapO ih l with | some m => some (.tu m) | none => none)
  | .rf c k r off n => (match n with | 0 => some (.im c []) | Nat.succ _ => fzR chk ih (hget H k) c r off n)
  | .rl c k r off n => (match n with | 0 => some (.im c []) | Nat.succ _ => fzR chk ih (hget H k) c r off n)
  | _ => none) d
theorem mapO_vs {f : AV → Option AV} {g g' : Gh} (hf : ∀ x y, f x = some y → ∀ v, V x g v → V y g' v) : ∀ {l m : List AV} {vs : List Value}, mapO f l = some m → Vs l g vs → Vs m g' vs
  | [], m, vs, h, hv => by
    obtain rfl := Option.some.inj h
    rw [Vs] at hv ⊢; exact hv
  | x :: l, m, vs, h, hv => by
    obtain ⟨y, m', h1, h2, rfl⟩ := mapO_cons h
    rw [Vs] at hv ⊢
    obtain ⟨v, r, e, a, b⟩ := hv
    exact ⟨v, r, e, hf _ _ h1 v a, mapO_vs hf h2 b⟩
theorem mapO_vc {f : AV → Option AV} {g g' : Gh} {c : Nat} (hf : ∀ x y, f x = some y → ∀ v, V x g v → V y g' v) : ∀ {l m : List AV} {vs : List Value}, mapO f l = some m → Vc c l g vs → Vc c m g' vs
  | [], m, vs, h, hv => by
    obtain rfl := Option.some.inj h
    rw [Vc] at hv ⊢; exact hv
  | x :: l, m, vs, h, hv => by
    obtain ⟨y, m', h1, h2, rfl⟩ := mapO_cons h
    rw [Vc] at hv ⊢
    obtain ⟨v, r, e, e2, a, b⟩ := hv
    exact ⟨v, r, e, e2, hf _ _ h1 v a, mapO_vc hf h2 b⟩
theorem mapO_len {f : AV → Option AV} : ∀ {l m : List AV}, mapO f l = some m → m.length = l.length
  | [], m, h => by obtain rfl := Option.some.inj h; rfl
  | x :: l, m, h => by
    obtain ⟨y, m', h1, h2, rfl⟩ := mapO_cons h
    rw [List.length_cons, List.length_cons, mapO_len h2]
theorem V.z {x : AV} {g : Gh} {v : Value} (h : V x g v) (o : (match x with | .top | .vl _ | .im .. | .pi .. => true | _ => false) = true) : V x g.z v := by
  cases x <;> first | (cases o; done) | (rw [V] at h ⊢; exact h)
section
variable {g : Gh} {HH : AS} {w : World} {H : HP}
theorem fzV_ok {chk : Bool} (R : RelH g HH w) (W : WH H) (hd : ∀ (k : Nat) T c l live hf, (asH H)[k]? = some (AO.row T c l live hf) → (chk && live) = false → HH[k]? = some (AO.row T c l false hf)) : ∀ (d : Nat) (x y : AV), fzV chk H d x = some y → ∀ v, V x g v → V y g.z v
  | 0, x, y, h => by cases h
  | d + 1, x, y, h => fun v hv => by
    have ih := fzV_ok R W hd d
    have row : ∀ {c k r off n y}, fzR chk (fzV chk H d) (hget H k) c r off n = some y → ∀ b cap o, g.s k r = some b → 0 < n → n ≤ cap → o = off * c → V y g.z (.slice (some ⟨b, o, none⟩) n cap) := fun {c k r off n y} h b cap o hb hn hcap ho => by
      unfold fzR at h
      split at h
      · rename_i T c' m l live e
        obtain ⟨h1, h2⟩ := cond_some h
        rw [Bool.and_eq_true, Bool.and_eq_true, Bool.and_eq_true, beq_iff, beq_iff, ble_iff, Bool.not_eq_true'] at h1
        obtain ⟨⟨⟨h0, rfl⟩, rfl⟩, h3⟩ := h1
        have hr : r = l.length := EO.ok_row W e
        split at h2
        · rename_i l' hl'
          obtain rfl := Option.some.inj h2
          rw [tk_eq, drp_eq] at hl'
          have e2 := hd _ _ _ _ _ _ (as_get W e (by simp)) h0
          subst hr
          obtain ⟨cs0, p1, p2, p3, p4⟩ := R.ob _ _ _ _ _ _ e2 b hb
          have p1 : Vc c' l g cs0 := p1
          obtain ⟨a, cap0, e1, -, e3, e4⟩ := (p4 : Sl _ _ _ _ _)
          simp only [Go.Proofs.YtlgdojkmbfbnjaaGreatDoor.hd, Value.slice.injEq] at e1
          rcases e4 with e4 | ⟨b', o', cc, e5, e6, e7⟩
          · omega
          · obtain ⟨e1, -, -⟩ := e1
            rw [e5] at e1
            simp only [Option.some.injEq, Addr.mk.injEq, and_true] at e1
            obtain ⟨rfl, rfl⟩ := e1
            have q := mapO_vc ih hl' ((p1.drop off).take n)
            have hll : l'.length = n := by rw [mapO_len hl', List.length_take, List.length_drop]; omega
            subst ho
            rw [V]
            refine ⟨_, ⟨_, cap, by rw [hll], by rw [hll]; exact hcap⟩, ?_, q⟩
            have := sl_sub (cap := cap) e6 p1.len p3 (fun i hi => by have := e7 i hi; rwa [Nat.zero_add] at this) h3
            rwa [hll]
        · cases h2
      · cases h
    have nil : ∀ {c : Nat} {a : Option Addr} {cap : Nat}, V (.im c []) g.z (.slice a 0 cap) := fun {c a cap} => by
      rw [V]
      exact ⟨[], ⟨a, cap, by simp, by simp⟩, by simpa using Sl.nil g.z.h c a cap, by simp [Vc]⟩
    cases x with
    | top => obtain rfl := Option.some.inj h; exact hv.z rfl
    | vl _ => obtain rfl := Option.some.inj h; exact hv.z rfl
    | im _ _ => obtain rfl := Option.some.inj h; exact hv.z rfl
    | pi _ _ => obtain rfl := Option.some.inj h; exact hv.z rfl
    | ag l =>
      replace h : (match mapO (fzV chk H d) l with | some m => some (.ag m) | none => none) = some y := h
      split at h
      · rename_i m hm
        obtain rfl := Option.some.inj h
        rw [V] at hv ⊢
        obtain ⟨vs, e, s⟩ := hv
        exact ⟨vs, e, mapO_vs ih hm s⟩
      · cases h
    | tu l =>
      replace h : (match mapO (fzV chk H d) l with | some m => some (.tu m) | none => none) = some y := h
      split at h
      · rename_i m hm
        obtain rfl := Option.some.inj h
        rw [V] at hv ⊢
        obtain ⟨vs, e, s⟩ := hv
        exact ⟨vs, e, mapO_vs ih hm s⟩
      · cases h
    | rf c k r off n =>
      rw [V] at hv
      cases n with
      | zero =>
        obtain rfl := Option.some.inj h
        rcases hv with ⟨_, _, _, rfl⟩ | ⟨b, cap, hb, ⟨o, rfl, ho⟩, _, hcp⟩
        · exact nil
        · exact nil
      | succ n =>
        rcases hv with ⟨h1, _⟩ | ⟨b, cap, hb, ⟨o, rfl, ho⟩, _, hcp⟩
        · cases h1
        · exact row h b cap o hb (Nat.succ_pos n) hcp (by omega)
    | rl c k r off n =>
      rw [V] at hv
      obtain ⟨b, o, hb, rfl, ho⟩ := hv
      cases n with
      | zero =>
        obtain rfl := Option.some.inj h
        exact nil
      | succ n => exact row h b _ o hb (Nat.succ_pos n) (Nat.le_refl _) (by omega)
    | pt _ _ _ _ _ => cases h
    | fn _ _ => cases h
    | fb _ _ => cases h
    | mr _ => cases h
    | it _ => cases h
end
/-! Calls that are known. -/
noncomputable def H0 : HP := ⟨.e, 0, 0⟩
noncomputable def runV (c : CL) (f : Nat) (xs : List AV) : Option AV := match c f xs H0 (fun x H => some (x, H)) with
  | some r => fzV false r.2 1000 r.1
  | none => none
theorem CallP.of_run {P : Program} {c : CL} (hC : CLok P c) {f : Nat} {xs : List AV} {y : AV} (h : runV c f xs = some y) : CallP P f xs (· = y) := by
  unfold runV at h
  split at h
  · rename_i r hr
    have W0 : WH H0 := ⟨fun k => by trivial, fun k _ => rfl⟩
    obtain ⟨t0, hc⟩ := hC f xs H0 (fun x H => some (x, H)) r W0 hr
    refine ⟨t0, fun h0 w vs hi hg hv => ?_⟩
    have e0 : asH H0 = [] := rfl
    have R : RelH (g0 h0) (asH H0) w := by
      rw [e0]
      exact ⟨hi, fun k T c l live hf e => (by simp at e), fun k T c l live hf e => (by simp at e), fun k r k' r' b e => (by cases e), fun k r b e => (by cases e), fun k o e => (by simp at e)⟩
    refine (hc (g0 h0) w vs R hg hv).mono fun e w' ⟨v, x, H1, g1, a1, a2, a3, a4, a5, a6, h', a7, a8, a9⟩ => ?_
    obtain rfl := Option.some.inj a9
    subst a7
    obtain ⟨g2, HH, b1, b2, b3, b4⟩ := a3.kills
    have q := fzV_ok (chk := false) b2 a8 (fun k T c l live hf e _ => b4 k T c l live hf e) 1000 x y h v (a5.mono _ _ _ _ b1)
    have tx := a4.trans (TX.ghost b3)
    refine ⟨v, y, g2.h, a1, (a2.trans b1).h, b2.im, fun b hb => ?_, tx.tu.toBelow (Nat.le_refl _) fun k ⟨_, _, e⟩ => (by cases e), V.mono _ _ _ _ (z_g0 g2) q, rfl⟩
    rcases tx.fz b with h | ⟨_, _, h⟩ | h
    · exact h
    · cases h
    · omega
  · cases h
/-- A list of calls that are known. -/
structure Kn where
  f : Nat
  xs : List AV
  y : AV
def KnOk (P : Program) (t : List Kn) : Prop := ∀ e ∈ t, e.xs.all AV.hfc = true ∧ CallP P e.f e.xs (· = e.y)
noncomputable def samL (l : List AV) : List AV → Bool := List.rec (fun m => List.rec true (fun _ _ _ => false) m) (fun x _ ih m => List.rec false (fun y m _ => Bool.rec false (sameA 20 x y) (ih m)) m) l
theorem samL_ok : ∀ {l m : List AV}, samL l m = true → l = m
  | [], [], _ => rfl
  | [], y :: m, h => by cases h
  | x :: l, [], h => by cases h
  | x :: l, y :: m, h => by
    replace h : (Bool.rec false (sameA 20 x y) (samL l m) : Bool) = true := h
    cases e : samL l m with
    | false => rw [e] at h; cases h
    | true =>
      rw [e] at h
      rw [sameA_ok (d := 20) h, samL_ok e]
/-- What is handed over does not change any more. -/
noncomputable def foldH (f : HP → AV → HP) (l : List AV) (H : HP) : HP := List.rec (fun H => H) (fun x _ ih H => ih (f H x)) l H
noncomputable def kilR (f : HP → AV → HP) (H : HP) (k : Nat) (o : EO) : HP := match o with
  | .row T c m l live => foldH f l (Bool.rec H (hset H k (.row T c m l false)) live)
  | _ => H
noncomputable def kilX (d : Nat) : HP → AV → HP := Nat.rec (fun H _ => H) (fun _ ih H x => match x with
  | .ag l => foldH ih l H
  | .tu l => foldH ih l H
  | .rf _ k _ _ n => (match n with | 0 => H | Nat.succ _ => kilR ih H k (hget H k))
  | .rl _ k _ _ n => (match n with | 0 => H | Nat.succ _ => kilR ih H k (hget H k))
  | _ => H) d
/-- From one heap to another one in which less may be turned. -/
def KilOk (H H' : HP) : Prop := WH H → WH H' ∧ ∀ g w, RelH g (asH H) w → ∃ g', g.le g' ∧ RelH g' (asH H') w ∧ Gz g g' ∧ EX g (asH H) g' (asH H')
theorem KilOk.rfl {H : HP} : KilOk H H := fun W => ⟨W, fun g _ R => ⟨g, .rfl, R, .rfl, .rfl⟩⟩
theorem KilOk.trans {a b c : HP} (x : KilOk a b) (y : KilOk b c) : KilOk a c := fun W => by
  obtain ⟨W1, h1⟩ := x W
  obtain ⟨W2, h2⟩ := y W1
  refine ⟨W2, fun g w R => ?_⟩
  obtain ⟨g1, a1, a2, a3, a4⟩ := h1 g w R
  obtain ⟨g2, b1, b2, b3, b4⟩ := h2 g1 w a2
  exact ⟨g2, a1.trans b1, b2, a3.trans b3, a4.trans b4⟩
theorem foldH_ok {f : HP → AV → HP} (hf : ∀ H x, KilOk H (f H x)) : ∀ (l : List AV) (H : HP), KilOk H (foldH f l H)
  | [], _ => .rfl
  | x :: l, H => (hf H x).trans (foldH_ok hf l (f H x))
theorem kilR_ok {f : HP → AV → HP} (hf : ∀ H x, KilOk H (f H x)) (H : HP) (k : Nat) : KilOk H (kilR f H k (hget H k)) := by
  unfold kilR
  split
  · rename_i T c m l live e
    refine KilOk.trans ?_ (foldH_ok hf l _)
    cases live
    · exact .rfl
    · intro W
      obtain ⟨q1, q2⟩ := as_set (o' := .row T c m l false) W e (by simp) (EO.ok_row W e)
      refine ⟨q2, fun g w R => ?_⟩
      have e2 := as_get W e (by simp)
      obtain ⟨g', h1, h2, h3⟩ := R.killAt e2
      show ∃ g', g.le g' ∧ RelH g' (asH (hset H k (.row T c m l false))) w ∧ Gz g g' ∧ EX g (asH H) g' (asH (hset H k (.row T c m l false)))
      rw [q1]
      exact ⟨g', h1, h2, h3, EX.set e2 (Eq.refl _) h3.s⟩
  · exact .rfl
theorem kilX_ok : ∀ (d : Nat) (H : HP) (x : AV), KilOk H (kilX d H x)
  | 0, H, x => .rfl
  | d + 1, H, x => by
    have ih := kilX_ok d
    cases x with
    | ag l => exact foldH_ok ih l H
    | tu l => exact foldH_ok ih l H
    | rf c k r off n =>
      cases n with
      | zero => exact .rfl
      | succ n => exact kilR_ok ih H k
    | rl c k r off n =>
      cases n with
      | zero => exact .rfl
      | succ n => exact kilR_ok ih H k
    | _ => exact .rfl
noncomputable def hasK (t : List Kn) (f : Nat) : Bool := List.rec false (fun e _ ih => Bool.rec ih true (Nat.beq e.f f)) t
noncomputable def knL (f : Nat) (ys : List AV) (t : List Kn) : Option AV := List.rec none (fun e _ ih => bif Nat.beq e.f f then (bif samL e.xs ys then some e.y else ih) else ih) t
noncomputable def knG (c : CL) (t : List Kn) (f : Nat) (xs : List AV) (H : HP) (k : KV) (H' : HP) : R := match mapO (fzV true H' 20) xs with
  | some ys => (match knL f ys t with
    | some y => k y H'
    | none => c f xs H k)
  | none => c f xs H k
noncomputable def knF (c : CL) (t : List Kn) : CL := fun f xs H k => bif hasK t f then knG c t f xs H k (foldH (kilX 20) xs H) else c f xs H k
theorem knL_ok {f : Nat} {ys : List AV} {y : AV} : ∀ {t : List Kn}, knL f ys t = some y → ∃ e ∈ t, e.f = f ∧ e.xs = ys ∧ e.y = y
  | [], h => by cases h
  | e :: t, h => by
    have more : knL f ys t = some y → ∃ e' ∈ e :: t, e'.f = f ∧ e'.xs = ys ∧ e'.y = y := fun h => by
      obtain ⟨e', h1, h2⟩ := knL_ok h
      exact ⟨e', List.mem_cons_of_mem _ h1, h2⟩
    replace h : (bif Nat.beq e.f f then (bif samL e.xs ys then some e.y else knL f ys t) else knL f ys t) = some y := h
    cases e1 : Nat.beq e.f f with
    | false => rw [e1] at h; exact more h
    | true =>
      rw [e1] at h
      cases e2 : samL e.xs ys with
      | false => rw [e2] at h; exact more h
      | true =>
        rw [e2] at h
        rw [beq_iff] at e1
        exact ⟨e, List.mem_cons_self, e1, samL_ok e2, Option.some.inj h⟩
theorem knF_ok {P : Program} {c : CL} (hC : CLok P c) {t : List Kn} (ht : KnOk P t) : CLok P (knF c t) := fun f xs H k r wh hr => by
  unfold knF at hr
  cases e1 : hasK t f with
  | false => rw [e1] at hr; exact hC f xs H k r wh hr
  | true =>
    rw [e1] at hr
    replace hr : knG c t f xs H k (foldH (kilX 20) xs H) = some r := hr
    unfold knG at hr
    split at hr
    · rename_i ys hys
      split at hr
      · rename_i y hy
        obtain ⟨W', hk⟩ := foldH_ok (kilX_ok 20) xs H wh
        obtain ⟨e, he, rfl, rfl, rfl⟩ := knL_ok hy
        obtain ⟨h1, h2⟩ := ht e he
        have hc := CallA.of_P h2 h1 (H := asH (foldH (kilX 20) xs H)) (K := fun x H1 => ∃ h', asH h' = H1 ∧ WH h' ∧ k x h' = some r) fun x hx => by subst hx; exact ⟨_, rfl, W', hr⟩
        refine ⟨hc.1, fun g w vs R hg hv => ?_⟩
        obtain ⟨g1, b1, b2, b3, b4⟩ := hk g w R
        have hv2 : Vs e.xs g1 vs := Vs.mono _ _ _ _ g1.z_le (mapO_vs (fun x y hxy v q => fzV_ok (chk := true) b2 W' (fun k T c l live hf e1 e2 => by
          rw [Bool.true_and] at e2
          subst e2; exact e1) 20 x y hxy v q) hys (Vs.mono _ _ _ _ b1 hv))
        refine (hc.2 g1 w vs b2 (hg.mono b1.h) hv2).mono fun e w' ⟨v, x, H1, g2, a1, a2, a3, a4, a5, a6, a7⟩ => ?_
        exact ⟨v, x, H1, g2, a1, b1.trans a2, a3, (TX.ghost b3).trans a4, a5, b4.trans a6, a7⟩
      · exact hC f xs H k r wh hr
    · exact hC f xs H k r wh hr
theorem foldH_d {f : HP → AV → HP} (hf : ∀ H x, HLe H (f H x)) : ∀ (l : List AV) (H : HP), HLe H (foldH f l H)
  | [], _ => .rfl
  | x :: l, H => (hf H x).trans (foldH_d hf l (f H x))
theorem kilX_d : ∀ (d : Nat) (H : HP) (x : AV), HLe H (kilX d H x)
  | 0, H, x => .rfl
  | d + 1, H, x => by
    have ih := kilX_d d
    have kr : ∀ k, HLe H (kilR (kilX d) H k (hget H k)) := fun k => by
      unfold kilR
      split
      · rename_i T c m l live e
        refine HLe.trans ?_ (foldH_d ih l _)
        cases live
        · exact .rfl
        · exact hle_set
      · exact .rfl
    cases x with
    | ag l => exact foldH_d ih l H
    | tu l => exact foldH_d ih l H
    | rf c k r off n =>
      cases n with
      | zero => exact .rfl
      | succ n => exact kr k
    | rl c k r off n =>
      cases n with
      | zero => exact .rfl
      | succ n => exact kr k
    | _ => exact .rfl
theorem knF_m {c : CL} (hM : CLm c) (t : List Kn) : CLm (knF c t) := fun f xs H k r hr => by
  unfold knF at hr
  cases e1 : hasK t f with
  | false => rw [e1] at hr; exact hM f xs H k r hr
  | true =>
    rw [e1] at hr
    replace hr : knG c t f xs H k (foldH (kilX 20) xs H) = some r := hr
    unfold knG at hr
    split at hr
    · split at hr
      · exact ⟨_, _, foldH_d (kilX_d 20) xs H, hr⟩
      · exact hM f xs H k r hr
    · exact hM f xs H k r hr
/-- Calls, with those that are known. -/
noncomputable def callT (fs : Nat → FE) (t : List Kn) (d : Nat) : CL := Nat.rec (fun _ _ _ _ => none) (fun _ ih => runF fs (knF ih t)) d
section
variable {P : Program} {T : Hint} {lf : Nat} {t : List Kn}
theorem callT_m : ∀ d, CLm (callT (fe P T lf) t d)
  | 0 => fun f xs H k r hr => by cases hr
  | d + 1 => runF_m (knF_m (callT_m d) t)
theorem callT_ok (X : ExtOk P) (hm : P.follows .mixedOrders = true) (ok : ∀ f, okF P T f = true) (ht : KnOk P t) : ∀ d, CLok P (callT (fe P T lf) t d)
  | 0 => fun f xs H k r _ hr => by cases hr
  | d + 1 => runF_ok X hm ok (knF_ok (callT_ok X hm ok ht d) ht) (knF_m (callT_m d) t)
end
theorem KnOk.nil {P : Program} : KnOk P [] := fun e he => by cases he
theorem KnOk.cons {P : Program} {t : List Kn} (h : KnOk P t) {e : Kn} (h1 : e.xs.all AV.hfc = true) (h2 : CallP P e.f e.xs (· = e.y)) : KnOk P (e :: t) := fun e' he => by
  rcases List.mem_cons.1 he with rfl | he
  · exact ⟨h1, h2⟩
  · exact h e' he
end Go.Proofs.YtlgdojkmbfbnjaaGreatDoor
