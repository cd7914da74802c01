/- Region 24 of the reference's Verify of a matching, where the alignment's certificate is refused. -/
import Derived.Test.YtfifbadepebpeaaXg
import Derived.Test.YtfifbadepebpeaaBo
namespace Go.Proofs.Ytfifbadepebpeaa
open Go.RowKit

set_option maxRecDepth 100000 in
set_option maxHeartbeats 8000000 in
theorem rv_r24f {w6 : World} {b5 bq oq cr k n cp1 cr1 np nt : Nat} {ap1 ar1 : Option Addr} {kc : Int} {v1 v2 v3 : Value} {PP : World → Prop} (hS0 : w6.cell? ⟨b5, 4, none⟩ = some (.slice (some ⟨bq, oq, none⟩) n cr) ∧ w6.cell? ⟨bq, oq + k * 6 + 3, none⟩ = some (.slice ap1 np cp1) ∧ w6.cell? ⟨bq, oq + k * 6 + 4, none⟩ = some (.int .i64 kc) ∧ w6.cell? ⟨bq, oq + k * 6 + 5, none⟩ = some (.slice ar1 nt cr1)) (_zj : b5 < w6.heap.size) (_zq : bq < w6.heap.size) (u0 : (0 : Int) ≤ (k : Int)) (u1 : (k : Int) < (n : Int))
    (VR : Hid (Calls Try.prog 44 #[v1, v2, v3, .agg #[.slice ap1 np cp1, .int .i64 kc, .slice ar1 nt cr1]] w6.drew fun e w7 => e = .returned (.bool false) ∧ (w7.cell? ⟨b5, 4, none⟩ = some (.slice (some ⟨bq, oq, none⟩) n cr) ∧ w7.cell? ⟨bq, oq + k * 6 + 3, none⟩ = some (.slice ap1 np cp1) ∧ w7.cell? ⟨bq, oq + k * 6 + 4, none⟩ = some (.int .i64 kc) ∧ w7.cell? ⟨bq, oq + k * 6 + 5, none⟩ = some (.slice ar1 nt cr1)) ∧ PP w7))
    {q0 q1 q2 q3 q4 q6 q7 q8 q9 q10 q11 q12 q13 q18 q19 q20 q21 q22 q23 q24 q25 q26 q27 q28 q29 q30 q31 q32 q33 q34 q35 q36 q37 q38 q39 q40 q41 q42 q43 q44 q45 q46 q47 q48 q49 q50 q51 q52 q53 q54 q55 q56 q57 q58 q59 q60 q61 q62 q63 q64 q65 q66 q67 q68 q69 q70 q71 q72 q73 q74 q75 q76 q77 q78 q79 q80 q81 q82 q83 q84 q85 q86 q87 q88 q89 q90 q91 q92 q93 q94 q95 q96 q97 q98 q99 q100 q101 q102 q103 q104 q105 q106 q107 q108 q109 q110 q111 q112 q113 q114 q115 q116 q117 q118 q119 q120 q121 q122 q123 q124 q125 q126 q127 q128 q129 q130 q131 q132 q133 q134 q135 q136 q137 q138 q139 q140 q141 q142 q143 q144 q145 q146 q147 q148 q149 q150 q151 q152 q153 q154 q155 q156 q157 q158 q159 q160 q161 q162 q163 q164 q165 q166 q167 q168 q169 q170 q171 q172 q173 q174 q175 q176 q177 q178 q179 q180 q181 q182 q183 q184 q185 q186 q187 : Value} {dd : _} {c : Code} (hc : Try.f19.body.bind (codeAt 24) = some c) (KK : Exit → Act → World → Prop)
    (HEND : Hid (∀ (u140 u141 u142 u143 u144 u145 u146 u147 u148 u149 u150 u151 u152 u153 u154 u155 u156 u157 u158 u159 u160 u161 u162 u163 u164 u165 u166 u167 u168 u169 u170 u171 u172 u173 u174 u175 u176 u177 u178 : Value) (w7 : World), PP w7 → KK Exit.normal { tmps := #[q0, q1, q2, q3, q4, Value.pointer (some ⟨b5, 0, none⟩), q6, q7, q8, q9, q10, q11, q12, q13, Value.int .i64 (k : Int), v1, v2, v3, q18, q19, q20, q21, q22, q23, q24, q25, q26, q27, q28, q29, q30, q31, q32, q33, q34, q35, q36, q37, q38, q39, q40, q41, q42, q43, q44, q45, q46, q47, q48, q49, q50, q51, q52, q53, q54, q55, q56, q57, q58, q59, q60, q61, q62, q63, q64, q65, q66, q67, q68, q69, q70, q71, q72, q73, q74, q75, q76, q77, q78, q79, q80, q81, q82, q83, q84, q85, q86, q87, q88, q89, q90, q91, q92, q93, q94, q95, q96, q97, q98, q99, q100, q101, q102, q103, q104, q105, q106, q107, q108, q109, q110, q111, q112, q113, q114, q115, q116, q117, q118, q119, q120, q121, q122, q123, q124, q125, q126, q127, q128, q129, q130, q131, q132, q133, q134, q135, q136, q137, q138, q139, u140, u141, u142, u143, u144, u145, u146, u147, u148, u149, u150, u151, u152, u153, u154, u155, u156, u157, u158, u159, u160, u161, u162, u163, u164, u165, u166, u167, u168, u169, u170, u171, u172, u173, u174, u175, u176, u177, u178, Value.bool true, q180, q181, q182, q183, q184, q185, q186, q187], defers := dd } w7)) :
    Code.wp Try.prog c KK { tmps := #[q0, q1, q2, q3, q4, Value.pointer (some ⟨b5, 0, none⟩), q6, q7, q8, q9, q10, q11, q12, q13, Value.int .i64 (k : Int), v1, v2, v3, q18, q19, q20, q21, q22, q23, q24, q25, q26, q27, q28, q29, q30, q31, q32, q33, q34, q35, q36, q37, q38, q39, q40, q41, q42, q43, q44, q45, q46, q47, q48, q49, q50, q51, q52, q53, q54, q55, q56, q57, q58, q59, q60, q61, q62, q63, q64, q65, q66, q67, q68, q69, q70, q71, q72, q73, q74, q75, q76, q77, q78, q79, q80, q81, q82, q83, q84, q85, q86, q87, q88, q89, q90, q91, q92, q93, q94, q95, q96, q97, q98, q99, q100, q101, q102, q103, q104, q105, q106, q107, q108, q109, q110, q111, q112, q113, q114, q115, q116, q117, q118, q119, q120, q121, q122, q123, q124, q125, q126, q127, q128, q129, q130, q131, q132, q133, q134, q135, q136, q137, q138, q139, q140, q141, q142, q143, q144, q145, q146, q147, q148, q149, q150, q151, q152, q153, q154, q155, q156, q157, q158, q159, q160, q161, q162, q163, q164, q165, q166, q167, q168, q169, q170, q171, q172, q173, q174, q175, q176, q177, q178, q179, q180, q181, q182, q183, q184, q185, q186, q187], defers := dd } w6 := by
  have e := Option.some.inj (hc.symm.trans (rfl : Try.f19.body.bind (codeAt 24) = some _))
  subst e
  obtain ⟨j4, d3, d4, d5⟩ := hS0
  refine wp_region_noPanic ?_
  refine wp_region_held_drew (S := (fun w' => w'.cell? ⟨b5, 4, none⟩ = some (.slice (some ⟨bq, oq, none⟩) n cr) ∧ w'.cell? ⟨bq, oq + k * 6 + 3, none⟩ = some (.slice ap1 np cp1) ∧ w'.cell? ⟨bq, oq + k * 6 + 4, none⟩ = some (.int .i64 kc) ∧ w'.cell? ⟨bq, oq + k * 6 + 5, none⟩ = some (.slice ar1 nt cr1))) (by kernel_rfl) ?_ (fun hHeld => ?_)
  · go_keep
  refine wpAnyH_take (i := 0) (oi := _) (v := ?_) rfl (by kernel_rfl) (by kernel_rfl) (by kernel_rfl) (fun _ _ _ h => h) (Or.inl ⟨by rfl, ?_⟩) (by assumption) ?_
  rotate_left
  · intro w hSw; (try dsimp only at hSw); go_simp <;> with_reducible rfl
  try simp only [Act.put, List.setIfInBounds_toArray]
  refine wpAnyH_take (i := 1) (oi := _) (v := ?_) rfl (by kernel_rfl) (by kernel_rfl) (by kernel_rfl) (fun _ _ _ h => h) (Or.inl ⟨by rfl, ?_⟩) (by assumption) ?_
  rotate_left
  · intro w hSw; (try dsimp only at hSw); go_simp <;> with_reducible rfl
  try simp only [Act.put]
  refine wpAnyH_take (i := 2) (oi := _) (v := ?_) rfl (by kernel_rfl) (by kernel_rfl) (by kernel_rfl) (fun _ _ _ h => h) (Or.inl ⟨by rfl, ?_⟩) (by assumption) ?_
  rotate_left
  · intro w hSw; (try dsimp only at hSw); go_simp <;> with_reducible rfl
  try simp only [Act.put]
  refine wpAnyH_take (i := 3) (oi := _) (v := ?_) rfl (by kernel_rfl) (by kernel_rfl) (by kernel_rfl) (fun _ _ _ h => h) (Or.inl ⟨by rfl, ?_⟩) (by assumption) ?_
  rotate_left
  · intro w hSw; (try dsimp only at hSw); go_simp <;> with_reducible rfl
  try simp only [Act.put]
  refine wpAnyH_take (i := 4) (oi := _) (v := ?_) rfl (by kernel_rfl) (by kernel_rfl) (by kernel_rfl) (fun _ _ _ h => h) (Or.inl ⟨by rfl, ?_⟩) (by assumption) ?_
  rotate_left
  · intro w hSw; (try dsimp only at hSw); go_simp <;> with_reducible rfl
  try simp only [Act.put]
  refine wpAnyH_take (i := 5) (oi := _) (v := ?_) rfl (by kernel_rfl) (by kernel_rfl) (by kernel_rfl) (fun _ _ _ h => h) (Or.inl ⟨by rfl, ?_⟩) (by assumption) ?_
  rotate_left
  · intro w hSw; (try dsimp only at hSw); go_simp <;> with_reducible rfl
  try simp only [Act.put]
  refine wpAnyH_take (i := 6) (oi := _) (v := ?_) rfl (by kernel_rfl) (by kernel_rfl) (by kernel_rfl) (fun _ _ _ h => h) (Or.inl ⟨by rfl, ?_⟩) (by assumption) ?_
  rotate_left
  · intro w hSw; (try dsimp only at hSw); go_simp <;> with_reducible rfl
  try simp only [Act.put]
  refine wpAnyH_take (i := 7) (oi := _) (v := ?_) rfl (by kernel_rfl) (by kernel_rfl) (by kernel_rfl) (fun _ _ _ h => h) (Or.inl ⟨by rfl, ?_⟩) (by assumption) ?_
  rotate_left
  · intro w hSw; (try dsimp only at hSw); go_simp <;> with_reducible rfl
  try simp only [Act.put]
  refine wpAnyH_take (i := 8) (oi := _) (v := ?_) rfl (by kernel_rfl) (by kernel_rfl) (by kernel_rfl) (fun _ _ _ h => h) (Or.inl ⟨by rfl, ?_⟩) (by assumption) ?_
  rotate_left
  · intro w hSw; (try dsimp only at hSw); go_simp <;> with_reducible rfl
  try simp only [Act.put]
  refine wpAnyH_ready (rs := [9]) (by kernel_rfl) (by simp) ?_
  refine AllReadyH.cons (o := _) rfl (fun K hK => ?_) AllReadyH.nil
  go_simp
  go_at_call 44
  refine VR.out.mono ?_
  rintro e w7 ⟨rfl, hS7, hP7⟩
  have HP7 := Lib.hid hP7
  clear hP7
  try go_simp
  refine hK.out _ _ hS7 (fun hHeld2 => ?_)
  clear hK K hHeld
  try simp only [Act.put, List.setIfInBounds_toArray, List.set_cons_zero, List.set_cons_succ]
  refine wpAnyH_take (i := 10) (oi := _) (v := ?_) rfl (by kernel_rfl) (by kernel_rfl) (by kernel_rfl) (fun _ _ _ h => h) (Or.inl ⟨by rfl, ?_⟩) (by assumption) ?_
  rotate_left
  · intro w hSw; (try dsimp only at hSw); go_simp <;> with_reducible rfl
  try simp only [Act.put, List.setIfInBounds_toArray]
  refine wpAnyH_take (i := 11) (oi := _) (v := ?_) rfl (by kernel_rfl) (by kernel_rfl) (by kernel_rfl) (fun _ _ _ h => h) (Or.inl ⟨by rfl, ?_⟩) (by assumption) ?_
  rotate_left
  · intro w hSw; (try dsimp only at hSw); go_simp <;> with_reducible rfl
  try simp only [Act.put]
  first
    | refine wpAnyH_take (i := 12) (oi := _) (v := undef) rfl (by kernel_rfl) (by kernel_rfl) (by kernel_rfl) (fun _ _ _ h => h) (Or.inr ⟨by kernel_rfl, rfl⟩) (by assumption) ?_
    | (refine wpAnyH_ready (rs := [12]) (by kernel_rfl) (by simp) ?_
       refine AllReadyH.cons (o := _) rfl (fun K hK => ?_) AllReadyH.nil
       refine (if_neg (by rw [show Region.wanted _ _ = false from (by kernel_rfl)]; decide)).mpr ?_
       refine hK.out _ _ (by assumption) (fun _ => ?_)
       clear hK K)
  try simp only [Act.put]
  first
    | refine wpAnyH_take (i := 13) (oi := _) (v := undef) rfl (by kernel_rfl) (by kernel_rfl) (by kernel_rfl) (fun _ _ _ h => h) (Or.inr ⟨by kernel_rfl, rfl⟩) (by assumption) ?_
    | (refine wpAnyH_ready (rs := [13]) (by kernel_rfl) (by simp) ?_
       refine AllReadyH.cons (o := _) rfl (fun K hK => ?_) AllReadyH.nil
       refine (if_neg (by rw [show Region.wanted _ _ = false from (by kernel_rfl)]; decide)).mpr ?_
       refine hK.out _ _ (by assumption) (fun _ => ?_)
       clear hK K)
  try simp only [Act.put]
  first
    | refine wpAnyH_take (i := 14) (oi := _) (v := undef) rfl (by kernel_rfl) (by kernel_rfl) (by kernel_rfl) (fun _ _ _ h => h) (Or.inr ⟨by kernel_rfl, rfl⟩) (by assumption) ?_
    | (refine wpAnyH_ready (rs := [14]) (by kernel_rfl) (by simp) ?_
       refine AllReadyH.cons (o := _) rfl (fun K hK => ?_) AllReadyH.nil
       refine (if_neg (by rw [show Region.wanted _ _ = false from (by kernel_rfl)]; decide)).mpr ?_
       refine hK.out _ _ (by assumption) (fun _ => ?_)
       clear hK K)
  try simp only [Act.put]
  first
    | refine wpAnyH_take (i := 15) (oi := _) (v := undef) rfl (by kernel_rfl) (by kernel_rfl) (by kernel_rfl) (fun _ _ _ h => h) (Or.inr ⟨by kernel_rfl, rfl⟩) (by assumption) ?_
    | (refine wpAnyH_ready (rs := [15]) (by kernel_rfl) (by simp) ?_
       refine AllReadyH.cons (o := _) rfl (fun K hK => ?_) AllReadyH.nil
       refine (if_neg (by rw [show Region.wanted _ _ = false from (by kernel_rfl)]; decide)).mpr ?_
       refine hK.out _ _ (by assumption) (fun _ => ?_)
       clear hK K)
  try simp only [Act.put]
  first
    | refine wpAnyH_take (i := 16) (oi := _) (v := undef) rfl (by kernel_rfl) (by kernel_rfl) (by kernel_rfl) (fun _ _ _ h => h) (Or.inr ⟨by kernel_rfl, rfl⟩) (by assumption) ?_
    | (refine wpAnyH_ready (rs := [16]) (by kernel_rfl) (by simp) ?_
       refine AllReadyH.cons (o := _) rfl (fun K hK => ?_) AllReadyH.nil
       refine (if_neg (by rw [show Region.wanted _ _ = false from (by kernel_rfl)]; decide)).mpr ?_
       refine hK.out _ _ (by assumption) (fun _ => ?_)
       clear hK K)
  try simp only [Act.put]
  first
    | refine wpAnyH_take (i := 17) (oi := _) (v := undef) rfl (by kernel_rfl) (by kernel_rfl) (by kernel_rfl) (fun _ _ _ h => h) (Or.inr ⟨by kernel_rfl, rfl⟩) (by assumption) ?_
    | (refine wpAnyH_ready (rs := [17]) (by kernel_rfl) (by simp) ?_
       refine AllReadyH.cons (o := _) rfl (fun K hK => ?_) AllReadyH.nil
       refine (if_neg (by rw [show Region.wanted _ _ = false from (by kernel_rfl)]; decide)).mpr ?_
       refine hK.out _ _ (by assumption) (fun _ => ?_)
       clear hK K)
  try simp only [Act.put]
  first
    | refine wpAnyH_take (i := 18) (oi := _) (v := undef) rfl (by kernel_rfl) (by kernel_rfl) (by kernel_rfl) (fun _ _ _ h => h) (Or.inr ⟨by kernel_rfl, rfl⟩) (by assumption) ?_
    | (refine wpAnyH_ready (rs := [18]) (by kernel_rfl) (by simp) ?_
       refine AllReadyH.cons (o := _) rfl (fun K hK => ?_) AllReadyH.nil
       refine (if_neg (by rw [show Region.wanted _ _ = false from (by kernel_rfl)]; decide)).mpr ?_
       refine hK.out _ _ (by assumption) (fun _ => ?_)
       clear hK K)
  try simp only [Act.put]
  first
    | refine wpAnyH_take (i := 19) (oi := _) (v := undef) rfl (by kernel_rfl) (by kernel_rfl) (by kernel_rfl) (fun _ _ _ h => h) (Or.inr ⟨by kernel_rfl, rfl⟩) (by assumption) ?_
    | (refine wpAnyH_ready (rs := [19]) (by kernel_rfl) (by simp) ?_
       refine AllReadyH.cons (o := _) rfl (fun K hK => ?_) AllReadyH.nil
       refine (if_neg (by rw [show Region.wanted _ _ = false from (by kernel_rfl)]; decide)).mpr ?_
       refine hK.out _ _ (by assumption) (fun _ => ?_)
       clear hK K)
  try simp only [Act.put]
  first
    | refine wpAnyH_take (i := 20) (oi := _) (v := undef) rfl (by kernel_rfl) (by kernel_rfl) (by kernel_rfl) (fun _ _ _ h => h) (Or.inr ⟨by kernel_rfl, rfl⟩) (by assumption) ?_
    | (refine wpAnyH_ready (rs := [20]) (by kernel_rfl) (by simp) ?_
       refine AllReadyH.cons (o := _) rfl (fun K hK => ?_) AllReadyH.nil
       refine (if_neg (by rw [show Region.wanted _ _ = false from (by kernel_rfl)]; decide)).mpr ?_
       refine hK.out _ _ (by assumption) (fun _ => ?_)
       clear hK K)
  try simp only [Act.put]
  first
    | refine wpAnyH_take (i := 21) (oi := _) (v := undef) rfl (by kernel_rfl) (by kernel_rfl) (by kernel_rfl) (fun _ _ _ h => h) (Or.inr ⟨by kernel_rfl, rfl⟩) (by assumption) ?_
    | (refine wpAnyH_ready (rs := [21]) (by kernel_rfl) (by simp) ?_
       refine AllReadyH.cons (o := _) rfl (fun K hK => ?_) AllReadyH.nil
       refine (if_neg (by rw [show Region.wanted _ _ = false from (by kernel_rfl)]; decide)).mpr ?_
       refine hK.out _ _ (by assumption) (fun _ => ?_)
       clear hK K)
  try simp only [Act.put]
  first
    | refine wpAnyH_take (i := 22) (oi := _) (v := undef) rfl (by kernel_rfl) (by kernel_rfl) (by kernel_rfl) (fun _ _ _ h => h) (Or.inr ⟨by kernel_rfl, rfl⟩) (by assumption) ?_
    | (refine wpAnyH_ready (rs := [22]) (by kernel_rfl) (by simp) ?_
       refine AllReadyH.cons (o := _) rfl (fun K hK => ?_) AllReadyH.nil
       refine (if_neg (by rw [show Region.wanted _ _ = false from (by kernel_rfl)]; decide)).mpr ?_
       refine hK.out _ _ (by assumption) (fun _ => ?_)
       clear hK K)
  try simp only [Act.put]
  first
    | refine wpAnyH_take (i := 23) (oi := _) (v := undef) rfl (by kernel_rfl) (by kernel_rfl) (by kernel_rfl) (fun _ _ _ h => h) (Or.inr ⟨by kernel_rfl, rfl⟩) (by assumption) ?_
    | (refine wpAnyH_ready (rs := [23]) (by kernel_rfl) (by simp) ?_
       refine AllReadyH.cons (o := _) rfl (fun K hK => ?_) AllReadyH.nil
       refine (if_neg (by rw [show Region.wanted _ _ = false from (by kernel_rfl)]; decide)).mpr ?_
       refine hK.out _ _ (by assumption) (fun _ => ?_)
       clear hK K)
  try simp only [Act.put]
  first
    | refine wpAnyH_take (i := 24) (oi := _) (v := undef) rfl (by kernel_rfl) (by kernel_rfl) (by kernel_rfl) (fun _ _ _ h => h) (Or.inr ⟨by kernel_rfl, rfl⟩) (by assumption) ?_
    | (refine wpAnyH_ready (rs := [24]) (by kernel_rfl) (by simp) ?_
       refine AllReadyH.cons (o := _) rfl (fun K hK => ?_) AllReadyH.nil
       refine (if_neg (by rw [show Region.wanted _ _ = false from (by kernel_rfl)]; decide)).mpr ?_
       refine hK.out _ _ (by assumption) (fun _ => ?_)
       clear hK K)
  try simp only [Act.put]
  first
    | refine wpAnyH_take (i := 25) (oi := _) (v := undef) rfl (by kernel_rfl) (by kernel_rfl) (by kernel_rfl) (fun _ _ _ h => h) (Or.inr ⟨by kernel_rfl, rfl⟩) (by assumption) ?_
    | (refine wpAnyH_ready (rs := [25]) (by kernel_rfl) (by simp) ?_
       refine AllReadyH.cons (o := _) rfl (fun K hK => ?_) AllReadyH.nil
       refine (if_neg (by rw [show Region.wanted _ _ = false from (by kernel_rfl)]; decide)).mpr ?_
       refine hK.out _ _ (by assumption) (fun _ => ?_)
       clear hK K)
  try simp only [Act.put]
  first
    | refine wpAnyH_take (i := 26) (oi := _) (v := undef) rfl (by kernel_rfl) (by kernel_rfl) (by kernel_rfl) (fun _ _ _ h => h) (Or.inr ⟨by kernel_rfl, rfl⟩) (by assumption) ?_
    | (refine wpAnyH_ready (rs := [26]) (by kernel_rfl) (by simp) ?_
       refine AllReadyH.cons (o := _) rfl (fun K hK => ?_) AllReadyH.nil
       refine (if_neg (by rw [show Region.wanted _ _ = false from (by kernel_rfl)]; decide)).mpr ?_
       refine hK.out _ _ (by assumption) (fun _ => ?_)
       clear hK K)
  try simp only [Act.put]
  first
    | refine wpAnyH_take (i := 27) (oi := _) (v := undef) rfl (by kernel_rfl) (by kernel_rfl) (by kernel_rfl) (fun _ _ _ h => h) (Or.inr ⟨by kernel_rfl, rfl⟩) (by assumption) ?_
    | (refine wpAnyH_ready (rs := [27]) (by kernel_rfl) (by simp) ?_
       refine AllReadyH.cons (o := _) rfl (fun K hK => ?_) AllReadyH.nil
       refine (if_neg (by rw [show Region.wanted _ _ = false from (by kernel_rfl)]; decide)).mpr ?_
       refine hK.out _ _ (by assumption) (fun _ => ?_)
       clear hK K)
  try simp only [Act.put]
  first
    | refine wpAnyH_take (i := 28) (oi := _) (v := undef) rfl (by kernel_rfl) (by kernel_rfl) (by kernel_rfl) (fun _ _ _ h => h) (Or.inr ⟨by kernel_rfl, rfl⟩) (by assumption) ?_
    | (refine wpAnyH_ready (rs := [28]) (by kernel_rfl) (by simp) ?_
       refine AllReadyH.cons (o := _) rfl (fun K hK => ?_) AllReadyH.nil
       refine (if_neg (by rw [show Region.wanted _ _ = false from (by kernel_rfl)]; decide)).mpr ?_
       refine hK.out _ _ (by assumption) (fun _ => ?_)
       clear hK K)
  try simp only [Act.put]
  first
    | refine wpAnyH_take (i := 29) (oi := _) (v := undef) rfl (by kernel_rfl) (by kernel_rfl) (by kernel_rfl) (fun _ _ _ h => h) (Or.inr ⟨by kernel_rfl, rfl⟩) (by assumption) ?_
    | (refine wpAnyH_ready (rs := [29]) (by kernel_rfl) (by simp) ?_
       refine AllReadyH.cons (o := _) rfl (fun K hK => ?_) AllReadyH.nil
       refine (if_neg (by rw [show Region.wanted _ _ = false from (by kernel_rfl)]; decide)).mpr ?_
       refine hK.out _ _ (by assumption) (fun _ => ?_)
       clear hK K)
  try simp only [Act.put]
  first
    | refine wpAnyH_take (i := 30) (oi := _) (v := undef) rfl (by kernel_rfl) (by kernel_rfl) (by kernel_rfl) (fun _ _ _ h => h) (Or.inr ⟨by kernel_rfl, rfl⟩) (by assumption) ?_
    | (refine wpAnyH_ready (rs := [30]) (by kernel_rfl) (by simp) ?_
       refine AllReadyH.cons (o := _) rfl (fun K hK => ?_) AllReadyH.nil
       refine (if_neg (by rw [show Region.wanted _ _ = false from (by kernel_rfl)]; decide)).mpr ?_
       refine hK.out _ _ (by assumption) (fun _ => ?_)
       clear hK K)
  try simp only [Act.put]
  first
    | refine wpAnyH_take (i := 31) (oi := _) (v := undef) rfl (by kernel_rfl) (by kernel_rfl) (by kernel_rfl) (fun _ _ _ h => h) (Or.inr ⟨by kernel_rfl, rfl⟩) (by assumption) ?_
    | (refine wpAnyH_ready (rs := [31]) (by kernel_rfl) (by simp) ?_
       refine AllReadyH.cons (o := _) rfl (fun K hK => ?_) AllReadyH.nil
       refine (if_neg (by rw [show Region.wanted _ _ = false from (by kernel_rfl)]; decide)).mpr ?_
       refine hK.out _ _ (by assumption) (fun _ => ?_)
       clear hK K)
  try simp only [Act.put]
  first
    | refine wpAnyH_take (i := 32) (oi := _) (v := undef) rfl (by kernel_rfl) (by kernel_rfl) (by kernel_rfl) (fun _ _ _ h => h) (Or.inr ⟨by kernel_rfl, rfl⟩) (by assumption) ?_
    | (refine wpAnyH_ready (rs := [32]) (by kernel_rfl) (by simp) ?_
       refine AllReadyH.cons (o := _) rfl (fun K hK => ?_) AllReadyH.nil
       refine (if_neg (by rw [show Region.wanted _ _ = false from (by kernel_rfl)]; decide)).mpr ?_
       refine hK.out _ _ (by assumption) (fun _ => ?_)
       clear hK K)
  try simp only [Act.put]
  first
    | refine wpAnyH_take (i := 33) (oi := _) (v := undef) rfl (by kernel_rfl) (by kernel_rfl) (by kernel_rfl) (fun _ _ _ h => h) (Or.inr ⟨by kernel_rfl, rfl⟩) (by assumption) ?_
    | (refine wpAnyH_ready (rs := [33]) (by kernel_rfl) (by simp) ?_
       refine AllReadyH.cons (o := _) rfl (fun K hK => ?_) AllReadyH.nil
       refine (if_neg (by rw [show Region.wanted _ _ = false from (by kernel_rfl)]; decide)).mpr ?_
       refine hK.out _ _ (by assumption) (fun _ => ?_)
       clear hK K)
  try simp only [Act.put]
  first
    | refine wpAnyH_take (i := 34) (oi := _) (v := undef) rfl (by kernel_rfl) (by kernel_rfl) (by kernel_rfl) (fun _ _ _ h => h) (Or.inr ⟨by kernel_rfl, rfl⟩) (by assumption) ?_
    | (refine wpAnyH_ready (rs := [34]) (by kernel_rfl) (by simp) ?_
       refine AllReadyH.cons (o := _) rfl (fun K hK => ?_) AllReadyH.nil
       refine (if_neg (by rw [show Region.wanted _ _ = false from (by kernel_rfl)]; decide)).mpr ?_
       refine hK.out _ _ (by assumption) (fun _ => ?_)
       clear hK K)
  try simp only [Act.put]
  first
    | refine wpAnyH_take (i := 35) (oi := _) (v := undef) rfl (by kernel_rfl) (by kernel_rfl) (by kernel_rfl) (fun _ _ _ h => h) (Or.inr ⟨by kernel_rfl, rfl⟩) (by assumption) ?_
    | (refine wpAnyH_ready (rs := [35]) (by kernel_rfl) (by simp) ?_
       refine AllReadyH.cons (o := _) rfl (fun K hK => ?_) AllReadyH.nil
       refine (if_neg (by rw [show Region.wanted _ _ = false from (by kernel_rfl)]; decide)).mpr ?_
       refine hK.out _ _ (by assumption) (fun _ => ?_)
       clear hK K)
  try simp only [Act.put]
  first
    | refine wpAnyH_take (i := 36) (oi := _) (v := undef) rfl (by kernel_rfl) (by kernel_rfl) (by kernel_rfl) (fun _ _ _ h => h) (Or.inr ⟨by kernel_rfl, rfl⟩) (by assumption) ?_
    | (refine wpAnyH_ready (rs := [36]) (by kernel_rfl) (by simp) ?_
       refine AllReadyH.cons (o := _) rfl (fun K hK => ?_) AllReadyH.nil
       refine (if_neg (by rw [show Region.wanted _ _ = false from (by kernel_rfl)]; decide)).mpr ?_
       refine hK.out _ _ (by assumption) (fun _ => ?_)
       clear hK K)
  try simp only [Act.put]
  first
    | refine wpAnyH_take (i := 37) (oi := _) (v := undef) rfl (by kernel_rfl) (by kernel_rfl) (by kernel_rfl) (fun _ _ _ h => h) (Or.inr ⟨by kernel_rfl, rfl⟩) (by assumption) ?_
    | (refine wpAnyH_ready (rs := [37]) (by kernel_rfl) (by simp) ?_
       refine AllReadyH.cons (o := _) rfl (fun K hK => ?_) AllReadyH.nil
       refine (if_neg (by rw [show Region.wanted _ _ = false from (by kernel_rfl)]; decide)).mpr ?_
       refine hK.out _ _ (by assumption) (fun _ => ?_)
       clear hK K)
  try simp only [Act.put]
  first
    | refine wpAnyH_take (i := 38) (oi := _) (v := undef) rfl (by kernel_rfl) (by kernel_rfl) (by kernel_rfl) (fun _ _ _ h => h) (Or.inr ⟨by kernel_rfl, rfl⟩) (by assumption) ?_
    | (refine wpAnyH_ready (rs := [38]) (by kernel_rfl) (by simp) ?_
       refine AllReadyH.cons (o := _) rfl (fun K hK => ?_) AllReadyH.nil
       refine (if_neg (by rw [show Region.wanted _ _ = false from (by kernel_rfl)]; decide)).mpr ?_
       refine hK.out _ _ (by assumption) (fun _ => ?_)
       clear hK K)
  try simp only [Act.put]
  refine wpAnyH_take (i := 39) (oi := _) (v := ?_) rfl (by kernel_rfl) (by kernel_rfl) (by kernel_rfl) (fun _ _ _ h => h) (Or.inl ⟨by rfl, ?_⟩) (by assumption) ?_
  rotate_left
  · intro w hSw; (try dsimp only at hSw); go_simp <;> with_reducible rfl
  try simp only [Act.put]
  refine wpAnyH_done (by kernel_rfl) ?_ _
  refine NoPanic.normal ?_
  try simp only [Act.put, List.setIfInBounds_toArray, List.set_cons_zero, List.set_cons_succ]
  go_wp2_with fail
  exact HEND.out _ _ _ _ _ _ _ _ _ _ _ _ _ _ _ _ _ _ _ _ _ _ _ _ _ _ _ _ _ _ _ _ _ _ _ _ _ _ _ _ HP7.out
end Go.Proofs.Ytfifbadepebpeaa
