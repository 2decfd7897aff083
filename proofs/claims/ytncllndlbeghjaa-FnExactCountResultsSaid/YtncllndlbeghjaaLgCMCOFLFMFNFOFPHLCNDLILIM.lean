/- Tables: the laws. -/
import Derived.Test.YtncllndlbeghjaaLgIHTALBLBMCL
import Derived.Test.YtncllndlbeghjaaLgDEFSdG
set_option linter.unusedVariables false
set_option linter.unusedSimpArgs false
set_option linter.unusedSectionVars false
set_option linter.unusedSimpArgs false
set_option linter.unusedVariables false
namespace Go.Lg
open Go Go.Ev
section
variable {R : Type}
theorem inL0 : inL 1048576 := ⟨by omega, by omega⟩
theorem sIsTab_eq {t : TabT} (hs : smallT t) (K : Bool → Option R) : spec_IsCombatTable 4194304 t K = K (goodT t) := by unfold spec_IsCombatTable; rw [kGood_eq hs]
theorem law_FnExactIsCombatTable (t : TabT) (w : Wf TabTy t) (K : Bool → Option R) : laws_FnExactIsCombatTable 4194304 t K = K true := by
  unfold laws_FnExactIsCombatTable
  rw [szT_eq (by omega) w _ inL0]
  rcases szT_ok t 1048576 inL0 with h | ⟨g1, g2, hs⟩
  · rw [h]; rfl
  · rw [decide_eq_false (by omega), cond_false, toTab_eq hs, sIsTab_eq hs, toTab_eq hs, IsTab_eq hs, toTab_eq hs, eqTab_self hs]
    simp
theorem good_tab {t : TabT} (h : goodT t = true) : (1 ≤ t.1.length ∧ t.1.length ≤ 8) ∧ (1 ≤ t.2.1 ∧ t.2.1 ≤ 2) ∧ (t.2.2.length : Int) = 5 * t.2.1 + 1 ∧ (∀ i < t.1.length, colB t.1 i = true) ∧ ∀ r ∈ t.2.2, r.length = t.1.length ∧ ∀ x ∈ r, 0 ≤ x ∧ x ≤ 7 := by
  unfold goodT at h
  simp only [Bool.and_eq_true, inB_iff, decide_eq_true_eq, List.all_eq_true, List.mem_range] at h
  obtain ⟨h1, h2, h3, h4, h5⟩ := h
  refine ⟨by omega, h2, h3, h4, fun r hr => ?_⟩
  have := h5 r hr
  unfold rowB at this
  simp only [Bool.and_eq_true, inB_iff, decide_eq_true_eq, List.all_eq_true] at this
  exact this
def askB (t : TabT) (c : Int) : Bool := goodT t && inB c 0 ((t.1.length : Int) - 1)
theorem ask_le {t : TabT} {c : Int} (h : askB t c = true) : goodT t = true ∧ 0 ≤ c ∧ c ≤ (t.1.length : Int) - 1 := by
  unfold askB at h
  simp only [Bool.and_eq_true, inB_iff] at h
  exact h
theorem kAsked_eq {t : TabT} (hs : smallT t) (c : Int) (K : Bool → Option R) : spec_kAsked 4194304 t c K = K (askB t c) := by
  unfold spec_kAsked askB
  rw [kGood_eq hs]
  cases hg : goodT t
  · rfl
  · obtain ⟨h1, _⟩ := good_tab hg
    rw [cond_true, w64 (by omega), l1In_eq]; rfl
theorem isColumn_eq {t : TabT} (hs : smallT t) (c : Int) (K : Bool → Option R) : impl_isColumn 4194304 t c K = K (askB t c) := by
  unfold impl_isColumn askB
  rw [IsTab_eq hs]
  cases hg : goodT t
  · rfl
  · obtain ⟨h1, _⟩ := good_tab hg
    rw [cond_true, isIndex_eq _ _ (by omega)]; rfl
def cellT (t : TabT) (i : Int) (c : Int) : Int := List.getD (List.getD t.2.2 (Int.toNat i) []) (Int.toNat c) (0 : Int)
theorem row_len {t : TabT} (hg : goodT t = true) {i : Int} (h0 : 0 ≤ i) (h1 : i < (t.2.2.length : Int)) : (List.getD t.2.2 (Int.toNat i) []).length = t.1.length ∧ ∀ x ∈ List.getD t.2.2 (Int.toNat i) [], 0 ≤ x ∧ x ≤ 7 := by
  obtain ⟨_, _, _, _, h5⟩ := good_tab hg
  rw [getD_lt (by omega)]
  exact h5 _ (List.getElem_mem (by omega))
theorem cell_le {t : TabT} (hg : goodT t = true) {i c : Int} (h0 : 0 ≤ i) (h1 : i < (t.2.2.length : Int)) (h2 : 0 ≤ c) (h3 : c ≤ (t.1.length : Int) - 1) : 0 ≤ cellT t i c ∧ cellT t i c ≤ 7 := by
  obtain ⟨g1, g2⟩ := row_len hg h0 h1
  unfold cellT
  refine g2 _ ?_
  rw [getD_lt (l := List.getD t.2.2 (Int.toNat i) []) (by omega)]
  exact List.getElem_mem _
theorem kResult_eq {t : TabT} (hg : goodT t = true) {roll c : Int} (h0 : t.2.1 ≤ roll) (h1 : roll ≤ 6 * t.2.1) (h2 : 0 ≤ c) (h3 : c ≤ (t.1.length : Int) - 1) (K : Int → Option R) : spec_kResult t roll c K = K (cellT t (roll - t.2.1) c) := by
  obtain ⟨_, hd, hl, _, _⟩ := good_tab hg
  obtain ⟨g1, g2⟩ := row_len (i := roll - t.2.1) hg (by omega) (by omega)
  unfold spec_kResult cellT
  rw [w64 (by omega), decide_eq_true (by omega : 0 ≤ roll - t.2.1), decide_eq_true (by omega : roll - t.2.1 < (t.2.2.length : Int)), decide_eq_true h2, g1, decide_eq_true (by omega)]
  rfl
theorem ResultAt_same {t : TabT} (hs : smallT t) (roll c : Int) : ∃ v b, (∀ {R : Type} (K : Int → Bool → Option R), spec_ResultAt 4194304 t roll c K = K v b) ∧ ∀ {R : Type} (K : Int → Bool → Option R), impl_ResultAt 4194304 t roll c K = K v b := by
  cases hp : askB t c
  · exact ⟨0, false, fun K => by unfold spec_ResultAt; rw [kAsked_eq hs, hp]; rfl, fun K => by unfold impl_ResultAt; rw [isColumn_eq hs, hp]; rfl⟩
  · obtain ⟨hg, h1, h2⟩ := ask_le hp
    obtain ⟨_, hd, hl, _, _⟩ := good_tab hg
    cases hr : inB roll t.2.1 (6 * t.2.1)
    · exact ⟨0, false, fun K => by unfold spec_ResultAt; rw [kAsked_eq hs, hp, l1In_eq, w64 (by omega), hr]; rfl, fun K => by unfold impl_ResultAt; rw [isColumn_eq hs, hp, inRange_eq, w64 (by omega), hr]; rfl⟩
    · have hr' := inB_iff.1 hr
      obtain ⟨g1, g2⟩ := row_len (i := roll - t.2.1) hg (by omega) (by omega)
      refine ⟨cellT t (roll - t.2.1) c, true, fun K => by unfold spec_ResultAt; rw [kAsked_eq hs, hp, l1In_eq, w64 (by omega), hr, Bool.not_true, cond_false, cond_false, kResult_eq hg hr'.1 hr'.2 h1 h2], fun K => ?_⟩
      unfold impl_ResultAt cellT
      rw [isColumn_eq hs, hp, inRange_eq, w64 (n := 6 * t.2.1) (by omega), hr, Bool.not_true, cond_false, cond_false, w64 (n := roll - t.2.1) (by omega), decide_eq_true (by omega : 0 ≤ roll - t.2.1), decide_eq_true (by omega : roll - t.2.1 < (t.2.2.length : Int)), decide_eq_true h1, g1, decide_eq_true (by omega)]
      rfl
theorem law_FnExactResultAt (t : TabT) (w : Wf TabTy t) (roll : Int) (w2 : Wf (.int .i64) roll) (c : Int) (w3 : Wf (.int .i64) c) (K : Bool → Option R) : laws_FnExactResultAt 4194304 t roll c K = K true := by
  unfold laws_FnExactResultAt
  rw [szT_eq (by omega) w _ inL0]
  rcases szT_ok t 1048576 inL0 with h | ⟨g1, g2, hs⟩
  · rw [h]; rfl
  · obtain ⟨v, b, e1, e2⟩ := ResultAt_same hs roll c
    rw [decide_eq_false (by omega), cond_false, toTab_eq hs, e1, toTab_eq hs, e2, toTab_eq hs, eqTab_self hs]
    simp
/-- The last column that an attack comes up to. -/
def colStep (l : List (Int × Int)) (a d : Int) (i : Nat) (s : Int) : Int := bif decide (IntKind.wrap .i64 (d * (List.getD l i ((0 : Int), (0 : Int))).1) ≤ IntKind.wrap .i64 (a * (List.getD l i ((0 : Int), (0 : Int))).2)) then (i : Int) else s
theorem kColumn_eq {t : TabT} (hs : smallT t) (a d : Int) (K : Int → Option R) : spec_kColumn 4194304 t a d K = K (iterN (colStep t.1 a d) (t.1.length - 0) 0 0) := by
  obtain ⟨s1, s2, s3⟩ := hs
  have gen : ∀ k q, t.1.length < q → spec_kColumn_l0 k K q a d 0 t.1 (t.1.length : Int) 0 = K (iterN (colStep t.1 a d) (t.1.length - 0) 0 0) := by
    intro k q hq
    refine loop_inv (fun m i s => spec_kColumn_l0 k K m a d s t.1 (t.1.length : Int) (i : Int)) t.1.length (colStep t.1 a d) K (fun _ _ => True) ?_ (fun _ _ _ _ => trivial) ?_ q 0 0 (Nat.zero_le _) trivial (by omega)
    · intro m i s hi _
      show spec_kColumn_l0 k K (m + 1) a d s t.1 (t.1.length : Int) (i : Int) = spec_kColumn_l0 k K m a d (colStep t.1 a d i s) t.1 (t.1.length : Int) ((i + 1 : Nat) : Int)
      rw [spec_kColumn_l0, dlt, d0, decide_eq_true hi, toNatC, wsucc (by omega)]
      unfold colStep
      cases decide (IntKind.wrap .i64 (d * (List.getD t.1 i ((0 : Int), (0 : Int))).1) ≤ IntKind.wrap .i64 (a * (List.getD t.1 i ((0 : Int), (0 : Int))).2)) <;> rfl
    · intro m s _
      show spec_kColumn_l0 k K (m + 1) a d s t.1 (t.1.length : Int) (t.1.length : Int) = K s
      rw [spec_kColumn_l0, dlt, decide_eq_false (by omega)]; rfl
  unfold spec_kColumn
  exact gen _ _ (by omega)
theorem columnFor_eq {t : TabT} (hs : smallT t) (a d : Int) (K : Int → Option R) : impl_columnFor 4194304 t a d K = K (iterN (colStep t.1 a d) (t.1.length - 0) 0 0) := by
  obtain ⟨s1, s2, s3⟩ := hs
  have gen : ∀ k q, t.1.length < q → impl_columnFor_l0 k K q a d 0 t.1 (t.1.length : Int) 0 = K (iterN (colStep t.1 a d) (t.1.length - 0) 0 0) := by
    intro k q hq
    refine loop_inv (fun m i s => impl_columnFor_l0 k K m a d s t.1 (t.1.length : Int) (i : Int)) t.1.length (colStep t.1 a d) K (fun _ _ => True) ?_ (fun _ _ _ _ => trivial) ?_ q 0 0 (Nat.zero_le _) trivial (by omega)
    · intro m i s hi _
      show impl_columnFor_l0 k K (m + 1) a d s t.1 (t.1.length : Int) (i : Int) = impl_columnFor_l0 k K m a d (colStep t.1 a d i s) t.1 (t.1.length : Int) ((i + 1 : Nat) : Int)
      rw [impl_columnFor_l0, dlt, d0, decide_eq_true hi, toNatC, wsucc (by omega)]
      unfold colStep
      cases decide (IntKind.wrap .i64 (d * (List.getD t.1 i ((0 : Int), (0 : Int))).1) ≤ IntKind.wrap .i64 (a * (List.getD t.1 i ((0 : Int), (0 : Int))).2)) <;> rfl
    · intro m s _
      show impl_columnFor_l0 k K (m + 1) a d s t.1 (t.1.length : Int) (t.1.length : Int) = K s
      rw [impl_columnFor_l0, dlt, decide_eq_false (by omega)]; rfl
  unfold impl_columnFor
  exact gen _ _ (by omega)
theorem ColumnFor_same {t : TabT} (hs : smallT t) (a d : Int) : ∃ v b, (∀ {R : Type} (K : Int → Bool → Option R), spec_ColumnFor 4194304 t a d K = K v b) ∧ ∀ {R : Type} (K : Int → Bool → Option R), impl_ColumnFor 4194304 t a d K = K v b := by
  cases hg : goodT t
  · exact ⟨0, false, fun K => by unfold spec_ColumnFor; rw [kGood_eq hs, hg]; rfl, fun K => by unfold impl_ColumnFor; rw [IsTab_eq hs, hg]; rfl⟩
  cases ha : inB a 0 1000
  · exact ⟨0, false, fun K => by unfold spec_ColumnFor; rw [kGood_eq hs, hg, l1In_eq, ha]; rfl, fun K => by unfold impl_ColumnFor; rw [IsTab_eq hs, hg, inRange_eq, ha]; rfl⟩
  cases hd : inB d 0 1000
  · exact ⟨0, false, fun K => by unfold spec_ColumnFor; rw [kGood_eq hs, hg, l1In_eq, ha, l1In_eq, hd]; rfl, fun K => by unfold impl_ColumnFor; rw [IsTab_eq hs, hg, inRange_eq, ha, inRange_eq, hd]; rfl⟩
  exact ⟨_, true, fun K => by unfold spec_ColumnFor; rw [kGood_eq hs, hg, l1In_eq, ha, l1In_eq, hd, Bool.not_true, cond_false, cond_false, cond_false, kColumn_eq hs],
    fun K => by unfold impl_ColumnFor; rw [IsTab_eq hs, hg, inRange_eq, ha, inRange_eq, hd, Bool.not_true, cond_false, cond_false, cond_false, columnFor_eq hs]⟩
theorem law_FnExactColumnFor (t : TabT) (w : Wf TabTy t) (a : Int) (w2 : Wf (.int .i64) a) (d : Int) (w3 : Wf (.int .i64) d) (K : Bool → Option R) : laws_FnExactColumnFor 4194304 t a d K = K true := by
  unfold laws_FnExactColumnFor
  rw [szT_eq (by omega) w _ inL0]
  rcases szT_ok t 1048576 inL0 with h | ⟨g1, g2, hs⟩
  · rw [h]; rfl
  · obtain ⟨v, b, e1, e2⟩ := ColumnFor_same hs a d
    rw [decide_eq_false (by omega), cond_false, toTab_eq hs, e1, toTab_eq hs, e2, toTab_eq hs, eqTab_self hs]
    simp
theorem ShiftColumn_same {t : TabT} (hs : smallT t) (c s : Int) : ∃ v b, (∀ {R : Type} (K : Int → Bool → Option R), spec_ShiftColumn 4194304 t c s K = K v b) ∧ ∀ {R : Type} (K : Int → Bool → Option R), impl_ShiftColumn 4194304 t c s K = K v b := by
  cases hp : askB t c
  · exact ⟨0, false, fun K => by unfold spec_ShiftColumn; rw [kAsked_eq hs, hp]; rfl, fun K => by unfold impl_ShiftColumn; rw [isColumn_eq hs, hp]; rfl⟩
  obtain ⟨hg, h1, h2⟩ := ask_le hp
  obtain ⟨hc, _⟩ := good_tab hg
  cases hr : inB s (-10) 10
  · exact ⟨0, false, fun K => by unfold spec_ShiftColumn; rw [kAsked_eq hs, hp, l1In_eq, hr]; rfl, fun K => by unfold impl_ShiftColumn; rw [isColumn_eq hs, hp, inRange_eq, hr]; rfl⟩
  have hr' := inB_iff.1 hr
  refine ⟨if c + s < 0 then 0 else if (t.1.length : Int) - 1 < c + s then (t.1.length : Int) - 1 else c + s, true, fun K => ?_, fun K => ?_⟩
  · unfold spec_ShiftColumn spec_kShift spec_l1Least spec_l1Most
    rw [kAsked_eq hs, hp, l1In_eq, hr, Bool.not_true, cond_false, cond_false, w64 (n := (t.1.length : Int) - 1) (by omega), w64 (n := c + s) (by omega)]
    by_cases h : c + s < 0
    · rw [if_pos h, decide_eq_false (by omega), cond_false]
      show (bif decide (c + s < 0) then K 0 true else K (c + s) true) = _
      rw [decide_eq_true (by omega : c + s < 0)]; rfl
    · rw [if_neg h]
      by_cases h' : (t.1.length : Int) - 1 < c + s
      · rw [if_pos h', decide_eq_true h', cond_true]
        show (bif decide ((t.1.length : Int) - 1 < 0) then K 0 true else K ((t.1.length : Int) - 1) true) = _
        rw [decide_eq_false (by omega : ¬ (t.1.length : Int) - 1 < 0)]; rfl
      · rw [if_neg h', decide_eq_false h', cond_false]
        show (bif decide (c + s < 0) then K 0 true else K (c + s) true) = _
        rw [decide_eq_false h]; rfl
  · unfold impl_ShiftColumn impl_shiftColumn
    rw [isColumn_eq hs, hp, inRange_eq, hr, Bool.not_true, cond_false, cond_false, w64 (n := (t.1.length : Int) - 1) (by omega), w64 (n := c + s) (by omega)]
    congr 1
    repeat' split
    all_goals omega
theorem law_FnExactShiftColumn (t : TabT) (w : Wf TabTy t) (c : Int) (w2 : Wf (.int .i64) c) (s : Int) (w3 : Wf (.int .i64) s) (K : Bool → Option R) : laws_FnExactShiftColumn 4194304 t c s K = K true := by
  unfold laws_FnExactShiftColumn
  rw [szT_eq (by omega) w _ inL0]
  rcases szT_ok t 1048576 inL0 with h | ⟨g1, g2, hs⟩
  · rw [h]; rfl
  · obtain ⟨v, b, e1, e2⟩ := ShiftColumn_same hs c s
    rw [decide_eq_false (by omega), cond_false, toTab_eq hs, e1, toTab_eq hs, e2, toTab_eq hs, eqTab_self hs]
    simp
/-! ### scores -/
def sc (r : Int) : Int := if r = 7 then 0 else if 4 ≤ r then 3 - r else r
theorem kScore_eq {r : Int} (h : 0 ≤ r ∧ r ≤ 7) (K : Int → Option R) : spec_kScore r K = K (sc r) := by
  unfold spec_kScore sc
  by_cases h1 : r = 7
  · rw [decide_eq_true h1, if_pos h1]; rfl
  · rw [decide_eq_false h1, if_neg h1]
    by_cases h2 : 4 ≤ r
    · rw [decide_eq_true h2, if_pos h2, w64 (by omega)]; rfl
    · rw [decide_eq_false h2, if_neg h2]; rfl
theorem scoreOf_eq {r : Int} (h : 0 ≤ r ∧ r ≤ 7) (K : Int → Option R) : impl_scoreOf r K = K (sc r) := by
  have : r = 0 ∨ r = 1 ∨ r = 2 ∨ r = 3 ∨ r = 4 ∨ r = 5 ∨ r = 6 ∨ r = 7 := by omega
  rcases this with h | h | h | h | h | h | h | h <;> subst h <;> rfl
def monB (rows : List (List Int)) (i : Nat) (j : Nat) : Bool :=
  (decide (j = 0) || !decide (sc (List.getD (List.getD rows i []) j 0) < sc (List.getD (List.getD rows i []) (j - 1) 0))) && (decide (i = 0) || !decide (sc (List.getD (List.getD rows i []) j 0) < sc (List.getD (List.getD rows (i - 1) []) j 0)))
theorem row_in {t : TabT} (hg : goodT t = true) {i j : Nat} (h : i < t.2.2.length) (hj : j < t.1.length) : 0 ≤ List.getD (List.getD t.2.2 i []) j 0 ∧ List.getD (List.getD t.2.2 i []) j 0 ≤ 7 := by
  have := cell_le (i := (i : Int)) (c := (j : Int)) hg (by omega) (by omega) (by omega) (by omega)
  unfold cellT at this
  rw [toNatC, toNatC] at this
  exact this
theorem rlen {t : TabT} (hg : goodT t = true) {i : Nat} (h : i < t.2.2.length) : (List.getD t.2.2 i []).length = t.1.length := by
  have := (row_len (i := (i : Int)) hg (by omega) (by omega)).1
  rwa [toNatC] at this
theorem sMono_l0 {k q : Nat} {t : TabT} (hg : goodT t = true) {i : Nat} (hi : i < t.2.2.length) (hb : t.2.2.length ≤ 1048576) (hq : t.1.length < q) (K0 : List (List Int) → Int → Int → TabT → Option R) (K1 : Bool → Bool → Option R) :
    spec_IsMonotone_l0 k K0 K1 q (i : Int) (List.getD t.2.2 i []) t.2.2 (t.2.2.length : Int) (i : Int) (List.getD t.2.2 i []) ((List.getD t.2.2 i []).length : Int) 0 t = bif (List.range t.1.length).all (monB t.2.2 i) then K0 t.2.2 (t.2.2.length : Int) (i : Int) t else K1 false true := by
  obtain ⟨hc, _⟩ := good_tab hg
  rw [rlen hg hi]
  refine loop_allN (fun m j => spec_IsMonotone_l0 k K0 K1 m (i : Int) (List.getD t.2.2 i []) t.2.2 (t.2.2.length : Int) (i : Int) (List.getD t.2.2 i []) (t.1.length : Int) (j : Int) t) t.1.length (monB t.2.2 i) _ (K1 false true) ?_ ?_ hq
  · intro m j hj
    show spec_IsMonotone_l0 k K0 K1 (m + 1) (i : Int) (List.getD t.2.2 i []) t.2.2 (t.2.2.length : Int) (i : Int) (List.getD t.2.2 i []) (t.1.length : Int) (j : Int) t = bif _ then spec_IsMonotone_l0 k K0 K1 m (i : Int) (List.getD t.2.2 i []) t.2.2 (t.2.2.length : Int) (i : Int) (List.getD t.2.2 i []) (t.1.length : Int) ((j + 1 : Nat) : Int) t else _
    have r0 := row_in hg hi hj
    rw [spec_IsMonotone_l0, dlt, d0, decide_eq_true hj, toNatC, wsucc (by omega), rlen hg hi, dlt, decide_eq_true hj]
    unfold monB
    rcases Nat.eq_zero_or_pos j with h0 | h0
    · rw [decide_eq_false (by omega : ¬ (0 : Int) < (j : Int)), decide_eq_true h0]
      rcases Nat.eq_zero_or_pos i with h1 | h1
      · rw [decide_eq_false (by omega : ¬ (0 : Int) < (i : Int)), decide_eq_true h1]; rfl
      · have r1 := row_in (i := i - 1) hg (by omega) hj
        rw [decide_eq_true (by omega : (0 : Int) < (i : Int)), decide_eq_false (by omega : ¬ i = 0), w64 (n := (i : Int) - 1) (by omega), show (i : Int) - 1 = ((i - 1 : Nat) : Int) by omega, d0, dlt, decide_eq_true (by omega : i - 1 < t.2.2.length), toNatC, rlen hg (by omega : i - 1 < t.2.2.length), dlt, decide_eq_true hj, kScore_eq r1, kScore_eq r0]
        simp only [Bool.and_self, cond_true, cond_false, Bool.true_or, Bool.false_or, Bool.true_and]
        cases decide (sc (List.getD (List.getD t.2.2 i []) j 0) < sc (List.getD (List.getD t.2.2 (i - 1) []) j 0)) <;> rfl
    · have r2 := row_in (j := j - 1) hg hi (by omega)
      rw [decide_eq_true (by omega : (0 : Int) < (j : Int)), decide_eq_false (by omega : ¬ j = 0), w64 (n := (j : Int) - 1) (by omega), show (j : Int) - 1 = ((j - 1 : Nat) : Int) by omega, d0, dlt, decide_eq_true (by omega : j - 1 < t.1.length), toNatC, kScore_eq r2, kScore_eq r0]
      simp only [Bool.and_self, cond_true, cond_false, Bool.true_or, Bool.false_or, Bool.true_and]
      cases decide (sc (List.getD (List.getD t.2.2 i []) j 0) < sc (List.getD (List.getD t.2.2 i []) (j - 1) 0))
      · rcases Nat.eq_zero_or_pos i with h1 | h1
        · rw [decide_eq_false (by omega : ¬ (0 : Int) < (i : Int)), decide_eq_true h1]; rfl
        · have r1 := row_in (i := i - 1) hg (by omega) hj
          rw [decide_eq_true (by omega : (0 : Int) < (i : Int)), decide_eq_false (by omega : ¬ i = 0), w64 (n := (i : Int) - 1) (by omega), show (i : Int) - 1 = ((i - 1 : Nat) : Int) by omega, d0, dlt, decide_eq_true (by omega : i - 1 < t.2.2.length), toNatC, rlen hg (by omega : i - 1 < t.2.2.length), dlt, decide_eq_true hj, kScore_eq r1, kScore_eq r0]
          simp only [Bool.and_self, cond_true, cond_false, Bool.true_or, Bool.false_or, Bool.true_and, Bool.not_false]
          cases decide (sc (List.getD (List.getD t.2.2 i []) j 0) < sc (List.getD (List.getD t.2.2 (i - 1) []) j 0)) <;> rfl
      · rfl
  · intro m
    show spec_IsMonotone_l0 k K0 K1 (m + 1) (i : Int) (List.getD t.2.2 i []) t.2.2 (t.2.2.length : Int) (i : Int) (List.getD t.2.2 i []) (t.1.length : Int) (t.1.length : Int) t = _
    rw [spec_IsMonotone_l0, dlt, decide_eq_false (by omega)]; rfl
theorem iMono_l0 {k q : Nat} {t : TabT} (hg : goodT t = true) {i : Nat} (hi : i < t.2.2.length) (hb : t.2.2.length ≤ 1048576) (hq : t.1.length < q) (K0 : List (List Int) → Int → Int → TabT → Option R) (K1 : Bool → Bool → Option R) :
    impl_IsMonotone_l0 k K0 K1 q (i : Int) (List.getD t.2.2 i []) t.2.2 (t.2.2.length : Int) (i : Int) ((List.getD t.2.2 i []).length : Int) 0 t = bif (List.range t.1.length).all (monB t.2.2 i) then K0 t.2.2 (t.2.2.length : Int) (i : Int) t else K1 false true := by
  obtain ⟨hc, _⟩ := good_tab hg
  rw [rlen hg hi]
  refine loop_allN (fun m j => impl_IsMonotone_l0 k K0 K1 m (i : Int) (List.getD t.2.2 i []) t.2.2 (t.2.2.length : Int) (i : Int) (t.1.length : Int) (j : Int) t) t.1.length (monB t.2.2 i) _ (K1 false true) ?_ ?_ hq
  · intro m j hj
    show impl_IsMonotone_l0 k K0 K1 (m + 1) (i : Int) (List.getD t.2.2 i []) t.2.2 (t.2.2.length : Int) (i : Int) (t.1.length : Int) (j : Int) t = bif _ then impl_IsMonotone_l0 k K0 K1 m (i : Int) (List.getD t.2.2 i []) t.2.2 (t.2.2.length : Int) (i : Int) (t.1.length : Int) ((j + 1 : Nat) : Int) t else _
    have r0 := row_in hg hi hj
    rw [impl_IsMonotone_l0, dlt, d0, decide_eq_true hj, toNatC, wsucc (by omega), rlen hg hi, dlt, decide_eq_true hj]
    unfold monB
    rcases Nat.eq_zero_or_pos j with h0 | h0
    · rw [decide_eq_false (by omega : ¬ (0 : Int) < (j : Int)), decide_eq_true h0]
      rcases Nat.eq_zero_or_pos i with h1 | h1
      · rw [decide_eq_false (by omega : ¬ (0 : Int) < (i : Int)), decide_eq_true h1]; rfl
      · have r1 := row_in (i := i - 1) hg (by omega) hj
        rw [decide_eq_true (by omega : (0 : Int) < (i : Int)), decide_eq_false (by omega : ¬ i = 0), w64 (n := (i : Int) - 1) (by omega), show (i : Int) - 1 = ((i - 1 : Nat) : Int) by omega, d0, dlt, decide_eq_true (by omega : i - 1 < t.2.2.length), toNatC, rlen hg (by omega : i - 1 < t.2.2.length), dlt, decide_eq_true hj, scoreOf_eq r1, scoreOf_eq r0]
        simp only [Bool.and_self, cond_true, cond_false, Bool.true_or, Bool.false_or, Bool.true_and]
        cases decide (sc (List.getD (List.getD t.2.2 i []) j 0) < sc (List.getD (List.getD t.2.2 (i - 1) []) j 0)) <;> rfl
    · have r2 := row_in (j := j - 1) hg hi (by omega)
      rw [decide_eq_true (by omega : (0 : Int) < (j : Int)), decide_eq_false (by omega : ¬ j = 0), w64 (n := (j : Int) - 1) (by omega), show (j : Int) - 1 = ((j - 1 : Nat) : Int) by omega, d0, dlt, decide_eq_true (by omega : j - 1 < t.1.length), toNatC, scoreOf_eq r2, scoreOf_eq r0]
      simp only [Bool.and_self, cond_true, cond_false, Bool.true_or, Bool.false_or, Bool.true_and]
      cases decide (sc (List.getD (List.getD t.2.2 i []) j 0) < sc (List.getD (List.getD t.2.2 i []) (j - 1) 0))
      · rcases Nat.eq_zero_or_pos i with h1 | h1
        · rw [decide_eq_false (by omega : ¬ (0 : Int) < (i : Int)), decide_eq_true h1]; rfl
        · have r1 := row_in (i := i - 1) hg (by omega) hj
          rw [decide_eq_true (by omega : (0 : Int) < (i : Int)), decide_eq_false (by omega : ¬ i = 0), w64 (n := (i : Int) - 1) (by omega), show (i : Int) - 1 = ((i - 1 : Nat) : Int) by omega, d0, dlt, decide_eq_true (by omega : i - 1 < t.2.2.length), toNatC, rlen hg (by omega : i - 1 < t.2.2.length), dlt, decide_eq_true hj, scoreOf_eq r1, scoreOf_eq r0]
          simp only [Bool.and_self, cond_true, cond_false, Bool.true_or, Bool.false_or, Bool.true_and, Bool.not_false]
          cases decide (sc (List.getD (List.getD t.2.2 i []) j 0) < sc (List.getD (List.getD t.2.2 (i - 1) []) j 0)) <;> rfl
      · rfl
  · intro m
    show impl_IsMonotone_l0 k K0 K1 (m + 1) (i : Int) (List.getD t.2.2 i []) t.2.2 (t.2.2.length : Int) (i : Int) (t.1.length : Int) (t.1.length : Int) t = _
    rw [impl_IsMonotone_l0, dlt, decide_eq_false (by omega)]; rfl
def mono (t : TabT) : Bool := (List.range t.2.2.length).all fun i => (List.range t.1.length).all (monB t.2.2 i)
theorem sMono_l1 {k q : Nat} {t : TabT} (hg : goodT t = true) (hb : t.2.2.length ≤ 1048576) (hk : 1048576 < k) (hq : t.2.2.length < q) (K0 : Option R) (K1 : Bool → Bool → Option R) :
    spec_IsMonotone_l1 k K0 K1 q t.2.2 (t.2.2.length : Int) 0 t = bif mono t then K0 else K1 false true := by
  have hc := (good_tab hg).1
  refine loop_allN (fun m i => spec_IsMonotone_l1 k K0 K1 m t.2.2 (t.2.2.length : Int) (i : Int) t) t.2.2.length (fun i => (List.range t.1.length).all (monB t.2.2 i)) K0 (K1 false true) ?_ ?_ hq
  · intro m i hi
    show spec_IsMonotone_l1 k K0 K1 (m + 1) t.2.2 (t.2.2.length : Int) (i : Int) t = bif _ then spec_IsMonotone_l1 k K0 K1 m t.2.2 (t.2.2.length : Int) ((i + 1 : Nat) : Int) t else _
    rw [spec_IsMonotone_l1, dlt, d0, decide_eq_true hi, toNatC, sMono_l0 hg hi hb (by omega), wsucc (by omega)]
    rfl
  · intro m
    show spec_IsMonotone_l1 k K0 K1 (m + 1) t.2.2 (t.2.2.length : Int) (t.2.2.length : Int) t = _
    rw [spec_IsMonotone_l1, dlt, decide_eq_false (by omega)]; rfl
theorem iMono_l1 {k q : Nat} {t : TabT} (hg : goodT t = true) (hb : t.2.2.length ≤ 1048576) (hk : 1048576 < k) (hq : t.2.2.length < q) (K0 : Option R) (K1 : Bool → Bool → Option R) :
    impl_IsMonotone_l1 k K0 K1 q t.2.2 (t.2.2.length : Int) 0 t = bif mono t then K0 else K1 false true := by
  have hc := (good_tab hg).1
  refine loop_allN (fun m i => impl_IsMonotone_l1 k K0 K1 m t.2.2 (t.2.2.length : Int) (i : Int) t) t.2.2.length (fun i => (List.range t.1.length).all (monB t.2.2 i)) K0 (K1 false true) ?_ ?_ hq
  · intro m i hi
    show impl_IsMonotone_l1 k K0 K1 (m + 1) t.2.2 (t.2.2.length : Int) (i : Int) t = bif _ then impl_IsMonotone_l1 k K0 K1 m t.2.2 (t.2.2.length : Int) ((i + 1 : Nat) : Int) t else _
    rw [impl_IsMonotone_l1, dlt, d0, decide_eq_true hi, toNatC, iMono_l0 hg hi hb (by omega), wsucc (by omega)]
    rfl
  · intro m
    show impl_IsMonotone_l1 k K0 K1 (m + 1) t.2.2 (t.2.2.length : Int) (t.2.2.length : Int) t = _
    rw [impl_IsMonotone_l1, dlt, decide_eq_false (by omega)]; rfl
theorem IsMonotone_same {t : TabT} (hs : smallT t) : ∃ v b, (∀ {R : Type} (K : Bool → Bool → Option R), spec_IsMonotone 4194304 t K = K v b) ∧ ∀ {R : Type} (K : Bool → Bool → Option R), impl_IsMonotone 4194304 t K = K v b := by
  have hs' := hs
  obtain ⟨s1, s2, s3⟩ := hs'
  cases hg : goodT t
  · exact ⟨false, false, fun K => by unfold spec_IsMonotone; rw [kGood_eq hs, hg]; rfl, fun K => by unfold impl_IsMonotone; rw [IsTab_eq hs, hg]; rfl⟩
  · refine ⟨mono t, true, fun K => ?_, fun K => ?_⟩
    · unfold spec_IsMonotone
      rw [kGood_eq hs, hg, Bool.not_true, cond_false, sMono_l1 hg s2 (by omega) (by omega)]
      cases mono t <;> rfl
    · unfold impl_IsMonotone
      rw [IsTab_eq hs, hg, Bool.not_true, cond_false, iMono_l1 hg s2 (by omega) (by omega)]
      cases mono t <;> rfl
theorem law_FnExactIsMonotone (t : TabT) (w : Wf TabTy t) (K : Bool → Option R) : laws_FnExactIsMonotone 4194304 t K = K true := by
  unfold laws_FnExactIsMonotone
  rw [szT_eq (by omega) w _ inL0]
  rcases szT_ok t 1048576 inL0 with h | ⟨g1, g2, hs⟩
  · rw [h]; rfl
  · obtain ⟨v, b, e1, e2⟩ := IsMonotone_same hs
    rw [decide_eq_false (by omega), cond_false, toTab_eq hs, e1, toTab_eq hs, e2, toTab_eq hs, eqTab_self hs]
    simp
end
end Go.Lg
/- Tables: counts and means. -/
set_option linter.unusedSimpArgs false
set_option linter.unusedVariables false
namespace Go.Lg
open Go Go.Ev
section
variable {R α σ : Type}
/-- A loop whose states are known. -/
theorem loop_det (L : Nat → Nat → σ → Option R) (n : Nat) (g : Nat → σ) (fin : Option R) (hs : ∀ m i, i < n → L (m + 1) i (g i) = L m (i + 1) (g (i + 1))) (he : ∀ m, L (m + 1) n (g n) = fin) : ∀ m i, i ≤ n → n - i < m → L m i (g i) = fin := by
  intro m
  induction m with
  | zero => intro i h1 h2; omega
  | succ m ih =>
    intro i h1 h2
    rcases Nat.lt_or_ge i n with h | h
    · rw [hs m i h, ih (i + 1) (by omega) (by omega)]
    · have : i = n := by omega
      subst this
      exact he m
def sumN (f : Nat → Int) : Nat → Int
  | 0 => 0
  | n + 1 => sumN f n + f n
theorem sumN_congr {f g : Nat → Int} : ∀ n, (∀ j, j < n → f j = g j) → sumN f n = sumN g n
  | 0, _ => rfl
  | n + 1, h => by
    show sumN f n + f n = sumN g n + g n
    rw [sumN_congr n (fun j hj => h j (by omega)), h n (by omega)]
theorem sumN_le {f : Nat → Int} {a b : Int} : ∀ n, (∀ j, j < n → a ≤ f j ∧ f j ≤ b) → a * n ≤ sumN f n ∧ sumN f n ≤ b * n
  | 0, _ => by simp [sumN]
  | n + 1, h => by
    have h1 := sumN_le n (fun j hj => h j (by omega))
    have h2 := h n (by omega)
    have e1 : a * ((n + 1 : Nat) : Int) = a * n + a := by rw [Int.natCast_add, Int.mul_add]; simp
    have e2 : b * ((n + 1 : Nat) : Int) = b * n + b := by rw [Int.natCast_add, Int.mul_add]; simp
    show a * ((n + 1 : Nat) : Int) ≤ sumN f n + f n ∧ sumN f n + f n ≤ b * ((n + 1 : Nat) : Int)
    omega
def wayI (d : Int) (i : Int) : Int := if d = 1 then 1 else if i - 5 < 0 then 6 - -(i - 5) else 6 - (i - 5)
theorem kWays_eq {d roll : Int} (hd : 1 ≤ d ∧ d ≤ 2) (hr : d ≤ roll ∧ roll ≤ 6 * d) (K : Int → Option R) : spec_kWays d roll K = K (wayI d (roll - d)) := by
  unfold spec_kWays wayI
  by_cases h : d = 1
  · rw [decide_eq_true h, if_pos h]; rfl
  · have : d = 2 := by omega
    subst this
    rw [decide_eq_false h, if_neg h, cond_false, w64 (n := roll - 7) (by omega), l1Abs_eq _ (by omega), show roll - 2 - 5 = roll - 7 by omega]
    by_cases h2 : roll - 7 < 0
    · rw [if_pos h2, if_pos h2, w64 (by omega)]
    · rw [if_neg h2, if_neg h2, w64 (by omega)]
theorem waysFor_eq {t : TabT} {i : Int} (hd : 1 ≤ t.2.1 ∧ t.2.1 ≤ 2) (hi : 0 ≤ i ∧ i ≤ 5 * t.2.1) (K : Int → Option R) : impl_waysFor t i K = K (wayI t.2.1 i) := by
  unfold impl_waysFor wayI
  by_cases h : t.2.1 = 1
  · rw [decide_eq_true h, if_pos h]; rfl
  · rw [decide_eq_false h, if_neg h, cond_false, w64 (n := i - 5) (by omega), absOf_eq _ (by omega)]
    by_cases h2 : i - 5 < 0
    · rw [if_pos h2, if_pos h2, w64 (by omega)]
    · rw [if_neg h2, if_neg h2, w64 (by omega)]
theorem wayI_le {d i : Int} (hd : 1 ≤ d ∧ d ≤ 2) (hi : 0 ≤ i ∧ i ≤ 5 * d) : 1 ≤ wayI d i ∧ wayI d i ≤ 6 := by
  unfold wayI
  split
  · omega
  · split <;> omega
section
variable (t : TabT) (c : Int)
def resI (i : Nat) : Int := cellT t (i : Int) c
def wI (i : Nat) : Int := wayI t.2.1 (i : Int)
def cntR (n : Nat) (r : Nat) : Int := sumN (fun j => if resI t c j = (r : Int) then wI t j else 0) n
def cnts (n : Nat) : List Int := (List.range 8).map (cntR t c n)
end
section
variable {t : TabT} {c : Int} (hg : goodT t = true) (h2 : 0 ≤ c) (h3 : c ≤ (t.1.length : Int) - 1)
include hg h2 h3
theorem resI_le {i : Nat} (hi : i < t.2.2.length) : 0 ≤ resI t c i ∧ resI t c i ≤ 7 := cell_le hg (by omega) (by omega) h2 h3
omit h2 h3 in
theorem wI_le {i : Nat} (hi : i < t.2.2.length) : 1 ≤ wI t i ∧ wI t i ≤ 6 := by
  obtain ⟨_, hd, hl, _, _⟩ := good_tab hg
  exact wayI_le hd (by omega)
omit h2 h3 in
theorem cntR_le {n : Nat} (hn : n ≤ t.2.2.length) (r : Nat) : 0 ≤ cntR t c n r ∧ cntR t c n r ≤ 66 := by
  obtain ⟨_, hd, hl, _, _⟩ := good_tab hg
  have := sumN_le (f := fun j => if resI t c j = (r : Int) then wI t j else 0) (a := 0) (b := 6) n (fun j hj => by
    have := wI_le hg (i := j) (by omega)
    show 0 ≤ (if resI t c j = (r : Int) then wI t j else 0) ∧ (if resI t c j = (r : Int) then wI t j else 0) ≤ 6
    split <;> omega)
  unfold cntR
  omega
theorem cnts_step {i : Nat} (hi : i < t.2.2.length) : List.set (cnts t c i) (Int.toNat (resI t c i)) (List.getD (cnts t c i) (Int.toNat (resI t c i)) 0 + wI t i) = cnts t c (i + 1) := by
  have hr := resI_le hg h2 h3 hi
  apply List.ext_getElem
  · simp [cnts]
  · intro j h4 h5
    have h6 : j < 8 := by simpa [cnts] using h5
    rw [List.getElem_set]
    have e : ∀ n, (cnts t c n).getD j 0 = cntR t c n j := fun n => by
      rw [getD_lt (by simp [cnts]; exact h6)]
      simp [cnts]
    have e2 : (cnts t c (i + 1))[j] = cntR t c (i + 1) j := by simp [cnts]
    refine Eq.trans ?_ e2.symm
    show _ = cntR t c i j + (if resI t c i = (j : Int) then wI t i else 0)
    by_cases hj : Int.toNat (resI t c i) = j
    · rw [if_pos hj, hj, e, if_pos (by omega)]
    · rw [if_neg hj, if_neg (by omega)]
      have e3 : (cnts t c i)[j]'(by simp [cnts]; exact h6) = cntR t c i j := by simp [cnts]
      refine e3.trans ?_
      omega
theorem kCounts_eq {k : Nat} (hk : t.2.2.length < k) (K : List Int → Option R) : spec_kCounts k t c K = K (cnts t c t.2.2.length) := by
  obtain ⟨_, hd, hl, _, _⟩ := good_tab hg
  unfold spec_kCounts
  have h0 : cnts t c 0 = List.replicate 8 (0 : Int) := rfl
  rw [← h0]
  have gen : ∀ q, t.2.2.length < q → spec_kCounts_l0 k (fun x => K x) q c t.2.1 t (cnts t c 0) = K (cnts t c t.2.2.length) := by
    intro q hq
    have := loop_det (fun m i out => spec_kCounts_l0 k (fun x => K x) m c (t.2.1 + (i : Int)) t out) t.2.2.length (cnts t c) (K (cnts t c t.2.2.length)) ?_ ?_ q 0 (Nat.zero_le _) (by omega)
    · simpa using this
    · intro m i hi
      have hr := resI_le hg h2 h3 hi
      have hw := wI_le hg hi
      show spec_kCounts_l0 k _ (m + 1) c (t.2.1 + (i : Int)) t (cnts t c i) = spec_kCounts_l0 k _ m c (t.2.1 + ((i + 1 : Nat) : Int)) t (cnts t c (i + 1))
      rw [spec_kCounts_l0, w64 (n := 6 * t.2.1) (by omega), decide_eq_true (by omega : t.2.1 + (i : Int) ≤ 6 * t.2.1), cond_true, kResult_eq hg (by omega) (by omega) h2 h3, kWays_eq hd (by omega), show t.2.1 + (i : Int) - t.2.1 = (i : Int) by omega]
      show (bif decide (0 ≤ resI t c i) && decide (resI t c i < ((cnts t c i).length : Int)) then (bif decide (0 ≤ resI t c i) && decide (resI t c i < ((cnts t c i).length : Int)) then
          spec_kCounts_l0 k _ m c (IntKind.wrap .i64 (t.2.1 + (i : Int) + 1)) t (List.set (cnts t c i) (Int.toNat (resI t c i)) (IntKind.wrap .i64 (List.getD (cnts t c i) (Int.toNat (resI t c i)) 0 + wI t i))) else none) else none) = _
      have hlen : (cnts t c i).length = 8 := by simp [cnts]
      have hget : List.getD (cnts t c i) (Int.toNat (resI t c i)) 0 = cntR t c i (Int.toNat (resI t c i)) := by
        rw [getD_lt (by omega)]; simp [cnts]
      have hb := cntR_le (c := c) hg (n := i) (by omega) (Int.toNat (resI t c i))
      rw [hlen, decide_eq_true hr.1, decide_eq_true (by omega : resI t c i < ((8 : Nat) : Int)), w64 (n := _ + wI t i) (by rw [hget]; omega), cnts_step hg h2 h3 hi, w64 (n := t.2.1 + (i : Int) + 1) (by omega), show t.2.1 + (i : Int) + 1 = t.2.1 + ((i + 1 : Nat) : Int) by omega]
      rfl
    · intro m
      show spec_kCounts_l0 k _ (m + 1) c (t.2.1 + (t.2.2.length : Int)) t (cnts t c t.2.2.length) = _
      rw [spec_kCounts_l0, w64 (n := 6 * t.2.1) (by omega), decide_eq_false (by omega)]; rfl
  exact gen k hk
omit h2 h3 in
theorem sc_le {r : Int} (h : 0 ≤ r ∧ r ≤ 7) : -3 ≤ sc r ∧ sc r ≤ 3 := by
  unfold sc
  split
  · omega
  · split <;> omega
def meanS (t : TabT) (c : Int) : Int := sumN (fun r => cntR t c t.2.2.length r * sc r) 8
def meanN (t : TabT) (c : Int) : Int := sumN (fun r => cntR t c t.2.2.length r) 8
omit h2 h3 in
theorem mul_le (r : Nat) (hr : r < 8) : -198 ≤ cntR t c t.2.2.length r * sc r ∧ cntR t c t.2.2.length r * sc r ≤ 198 := by
  have h1 := cntR_le (c := c) hg (n := t.2.2.length) (Nat.le_refl _) r
  have h4 := sc_le hg (r := (r : Int)) (by omega)
  have e : sc (r : Int) = -3 ∨ sc (r : Int) = -2 ∨ sc (r : Int) = -1 ∨ sc (r : Int) = 0 ∨ sc (r : Int) = 1 ∨ sc (r : Int) = 2 ∨ sc (r : Int) = 3 := by omega
  rcases e with e | e | e | e | e | e | e <;> rw [e] <;> omega
omit h2 h3 in
theorem sMean_eq {k q : Nat} (hq : 8 < q) (K : Int → Int → Option R) : spec_MeanScore_l0 k K q 0 0 (cnts t c t.2.2.length) ((cnts t c t.2.2.length).length : Int) 0 = K (meanS t c) (meanN t c) := by
  have hlen : (cnts t c t.2.2.length).length = 8 := by simp [cnts]
  rw [hlen]
  refine loop_det (fun m i s => spec_MeanScore_l0 k K m s.1 s.2 (cnts t c t.2.2.length) ((8 : Nat) : Int) (i : Int)) 8 (fun i => (sumN (fun r => cntR t c t.2.2.length r * sc r) i, sumN (fun r => cntR t c t.2.2.length r) i)) (K (meanS t c) (meanN t c)) ?_ ?_ q 0 (Nat.zero_le _) (by omega)
  · intro m i hi
    show spec_MeanScore_l0 k K (m + 1) (sumN (fun r => cntR t c t.2.2.length r * sc r) i) (sumN (fun r => cntR t c t.2.2.length r) i) (cnts t c t.2.2.length) ((8 : Nat) : Int) (i : Int) = spec_MeanScore_l0 k K m (sumN (fun r => cntR t c t.2.2.length r * sc r) i + cntR t c t.2.2.length i * sc i) (sumN (fun r => cntR t c t.2.2.length r) i + cntR t c t.2.2.length i) (cnts t c t.2.2.length) ((8 : Nat) : Int) ((i + 1 : Nat) : Int)
    have hget : List.getD (cnts t c t.2.2.length) i 0 = cntR t c t.2.2.length i := by
      rw [getD_lt (by omega)]; simp [cnts]
    have b1 := sumN_le (f := fun r => cntR t c t.2.2.length r * sc r) (a := -198) (b := 198) i (fun j hj => mul_le hg j (by omega))
    have b2 := sumN_le (f := fun r => cntR t c t.2.2.length r) (a := 0) (b := 66) i (fun j hj => cntR_le hg (Nat.le_refl _) j)
    have b3 := mul_le (c := c) hg i hi
    have b4 := cntR_le (c := c) hg (n := t.2.2.length) (Nat.le_refl _) i
    rw [spec_MeanScore_l0, dlt, d0, decide_eq_true hi, hlen, dlt, decide_eq_true hi, toNatC, hget, kScore_eq (by omega), wsucc (by omega), w64 (n := cntR t c t.2.2.length i * sc i) (by omega), w64 (by omega), w64 (by omega)]
    rfl
  · intro m
    show spec_MeanScore_l0 k K (m + 1) (meanS t c) (meanN t c) (cnts t c t.2.2.length) ((8 : Nat) : Int) ((8 : Nat) : Int) = _
    rw [spec_MeanScore_l0, dlt, decide_eq_false (by omega)]; rfl
/-- The sums, by results and by rows. -/
theorem pick8 {r w : Int} (hr : 0 ≤ r ∧ r ≤ 7) (f : Int → Int) : sumN (fun j => (if r = (j : Int) then w else 0) * f j) 8 = w * f r := by
  have e : r = 0 ∨ r = 1 ∨ r = 2 ∨ r = 3 ∨ r = 4 ∨ r = 5 ∨ r = 6 ∨ r = 7 := by omega
  rcases e with e | e | e | e | e | e | e | e <;> subst e <;> simp [sumN]
theorem sumN_add (f g : Nat → Int) : ∀ n, sumN (fun j => f j + g j) n = sumN f n + sumN g n
  | 0 => rfl
  | n + 1 => by
    show sumN (fun j => f j + g j) n + (f n + g n) = (sumN f n + f n) + (sumN g n + g n)
    rw [sumN_add f g n]; omega
omit h2 h3 hg in
theorem pick8' {r w : Int} (hr : 0 ≤ r ∧ r ≤ 7) (f : Int → Int) : sumN (fun j => (if r = (j : Int) then w else 0) * f j) 8 = w * f r := by
  have e : r = 0 ∨ r = 1 ∨ r = 2 ∨ r = 3 ∨ r = 4 ∨ r = 5 ∨ r = 6 ∨ r = 7 := by omega
  rcases e with e | e | e | e | e | e | e | e <;> subst e <;> simp [sumN]
theorem swap8 (f : Int → Int) : ∀ n, n ≤ t.2.2.length → sumN (fun r => cntR t c n r * f r) 8 = sumN (fun j => wI t j * f (resI t c j)) n
  | 0, _ => by simp [sumN, cntR]
  | n + 1, hn => by
    show _ = sumN (fun j => wI t j * f (resI t c j)) n + wI t n * f (resI t c n)
    rw [← swap8 f n (by omega), ← pick8' (resI_le hg h2 h3 (i := n) (by omega)) f, ← sumN_add hg h2 h3]
    refine sumN_congr 8 fun r _ => ?_
    show (cntR t c n r + (if resI t c n = (r : Int) then wI t n else 0)) * f r = _
    rw [Int.add_mul]
theorem meanS_eq : meanS t c = sumN (fun j => wI t j * sc (resI t c j)) t.2.2.length := swap8 hg h2 h3 sc _ (Nat.le_refl _)
theorem meanN_eq : meanN t c = sumN (fun j => wI t j) t.2.2.length := by
  have := swap8 hg h2 h3 (fun _ => 1) t.2.2.length (Nat.le_refl _)
  simp only [Int.mul_one] at this
  exact this
theorem iMean_eq {k q : Nat} (hq : t.2.2.length < q) (K : Int → Int → Option R) : impl_MeanScore_l0 k K q c 0 0 t.2.2 (t.2.2.length : Int) 0 t = K (meanS t c) (meanN t c) := by
  obtain ⟨_, hd, hl, _, _⟩ := good_tab hg
  rw [meanS_eq hg h2 h3, meanN_eq hg h2 h3]
  refine loop_det (fun m i s => impl_MeanScore_l0 k K m c s.1 s.2 t.2.2 (t.2.2.length : Int) (i : Int) t) t.2.2.length (fun i => (sumN (fun j => wI t j * sc (resI t c j)) i, sumN (fun j => wI t j) i)) (K (sumN (fun j => wI t j * sc (resI t c j)) t.2.2.length) (sumN (fun j => wI t j) t.2.2.length)) ?_ ?_ q 0 (Nat.zero_le _) (by omega)
  · intro m i hi
    show impl_MeanScore_l0 k K (m + 1) c (sumN (fun j => wI t j * sc (resI t c j)) i) (sumN (fun j => wI t j) i) t.2.2 (t.2.2.length : Int) (i : Int) t = impl_MeanScore_l0 k K m c (sumN (fun j => wI t j * sc (resI t c j)) i + wI t i * sc (resI t c i)) (sumN (fun j => wI t j) i + wI t i) t.2.2 (t.2.2.length : Int) ((i + 1 : Nat) : Int) t
    have hm : ∀ j, j < t.2.2.length → -18 ≤ wI t j * sc (resI t c j) ∧ wI t j * sc (resI t c j) ≤ 18 := by
      intro j hj
      have h1 := wI_le hg hj
      have h4 := sc_le hg (resI_le hg h2 h3 hj)
      have e : sc (resI t c j) = -3 ∨ sc (resI t c j) = -2 ∨ sc (resI t c j) = -1 ∨ sc (resI t c j) = 0 ∨ sc (resI t c j) = 1 ∨ sc (resI t c j) = 2 ∨ sc (resI t c j) = 3 := by omega
      rcases e with e | e | e | e | e | e | e <;> rw [e] <;> omega
    have b1 := sumN_le (f := fun j => wI t j * sc (resI t c j)) (a := -18) (b := 18) i (fun j hj => hm j (by omega))
    have b2 := sumN_le (f := fun j => wI t j) (a := 1) (b := 6) i (fun j hj => wI_le hg (by omega))
    have b3 := hm i hi
    have b4 := wI_le hg hi
    have hr := resI_le hg h2 h3 hi
    have hrow : (List.getD t.2.2 i []).length = t.1.length := by
      have := (row_len (i := (i : Int)) hg (by omega) (by omega)).1
      rwa [toNatC] at this
    have hcell : List.getD (List.getD t.2.2 i []) (Int.toNat c) 0 = resI t c i := by
      show _ = List.getD (List.getD t.2.2 (Int.toNat (i : Int)) []) (Int.toNat c) 0
      rw [toNatC]
    rw [impl_MeanScore_l0, dlt, d0, decide_eq_true hi, toNatC, hrow, hcell, decide_eq_true h2, decide_eq_true (by omega : c < (t.1.length : Int)), scoreOf_eq hr, waysFor_eq hd (by omega), waysFor_eq hd (by omega), wsucc (by omega)]
    show (impl_MeanScore_l0 k K m c (IntKind.wrap .i64 (sumN (fun j => wI t j * sc (resI t c j)) i + (IntKind.wrap .i64 (sc (resI t c i) * wI t i)))) (IntKind.wrap .i64 (sumN (fun j => wI t j) i + wI t i)) t.2.2 (t.2.2.length : Int) ((i + 1 : Nat) : Int) t) = _
    rw [Int.mul_comm (sc (resI t c i)), w64 (n := wI t i * sc (resI t c i)) (by omega), w64 (by omega), w64 (by omega)]
  · intro m
    show impl_MeanScore_l0 k K (m + 1) c _ _ t.2.2 (t.2.2.length : Int) (t.2.2.length : Int) t = _
    rw [impl_MeanScore_l0, dlt, decide_eq_false (by omega)]; rfl
end
theorem MeanScore_same {t : TabT} (hs : smallT t) (c : Int) : ∃ u v b, (∀ {R : Type} (K : Int → Int → Bool → Option R), spec_MeanScore 4194304 t c K = K u v b) ∧ ∀ {R : Type} (K : Int → Int → Bool → Option R), impl_MeanScore 4194304 t c K = K u v b := by
  have hs' := hs
  obtain ⟨s1, s2, s3⟩ := hs'
  cases hp : askB t c
  · exact ⟨0, 0, false, fun K => by unfold spec_MeanScore; rw [kAsked_eq hs, hp]; rfl, fun K => by unfold impl_MeanScore; rw [isColumn_eq hs, hp]; rfl⟩
  · obtain ⟨hg, h1, h2⟩ := ask_le hp
    exact ⟨meanS t c, meanN t c, true, fun K => by unfold spec_MeanScore; rw [kAsked_eq hs, hp, Bool.not_true, cond_false, kCounts_eq hg h1 h2 (by omega), sMean_eq hg (by omega)],
      fun K => by unfold impl_MeanScore; rw [isColumn_eq hs, hp, Bool.not_true, cond_false, iMean_eq hg h1 h2 (by omega)]⟩
theorem law_FnExactMeanScore (t : TabT) (w : Wf TabTy t) (c : Int) (w2 : Wf (.int .i64) c) (K : Bool → Option R) : laws_FnExactMeanScore 4194304 t c K = K true := by
  unfold laws_FnExactMeanScore
  rw [szT_eq (by omega) w _ inL0]
  rcases szT_ok t 1048576 inL0 with h | ⟨g1, g2, hs⟩
  · rw [h]; rfl
  · obtain ⟨u, v, b, e1, e2⟩ := MeanScore_same hs c
    rw [decide_eq_false (by omega), cond_false, toTab_eq hs, e1, toTab_eq hs, e2, toTab_eq hs, eqTab_self hs]
    simp
end
end Go.Lg
/- Marks; disks, rings, walks, what is near: the laws. -/
set_option linter.unusedSimpArgs false
set_option linter.unusedVariables false
namespace Go.Lg
open Go Go.Ev
section
variable {R α σ : Type}
theorem set_at {l r : List α} {x y : α} {n : Nat} (h : l.length = n) : (l ++ x :: r).set n y = l ++ y :: r := by
  subst h
  rw [List.set_append_right _ _ (Nat.le_refl _), Nat.sub_self]; rfl
theorem getD_at {l r : List α} {x d : α} {n : Nat} (h : l.length = n) : (l ++ x :: r).getD n d = x := by
  subst h
  rw [List.getD_eq_getElem?_getD, List.getElem?_append_right (Nat.le_refl _), Nat.sub_self]; rfl
/-! ### marks of hexes -/
def mH (n : Nat) : List (Int × Int) := (List.range n).map fun (i : Nat) => (1 + 2 * (i : Int), 2 + 2 * (i : Int))
theorem mH_len (n : Nat) : (mH n).length = n := by simp [mH]
theorem mH_succ (n : Nat) : mH (n + 1) = mH n ++ [(1 + 2 * (n : Int), 2 + 2 * (n : Int))] := by unfold mH; rw [List.range_succ, List.map_append]; rfl
theorem markHexS_eq {k : Nat} (a : List (Int × Int)) (h : a.length < k) (hb : a.length ≤ 137438953472) (K : List (Int × Int) → Int → Option R) : laws_markHexS_in k a 1 K = K (mH a.length) (1 + 2 * (a.length : Int)) := by
  unfold laws_markHexS_in
  have h0 : a = mH 0 ++ a.drop 0 := by simp [mH]
  conv => lhs; rw [h0]
  refine loop_det (fun m i s => laws_markHexS_in_l0 k (fun x y => K y x) m (1 + 2 * (i : Int)) (i : Int) s) a.length (fun i => mH i ++ a.drop i) _ ?_ ?_ k 0 (Nat.zero_le _) (by omega)
  · intro m i hi
    show laws_markHexS_in_l0 k _ (m + 1) (1 + 2 * (i : Int)) (i : Int) (mH i ++ a.drop i) = laws_markHexS_in_l0 k _ m (1 + 2 * ((i + 1 : Nat) : Int)) ((i + 1 : Nat) : Int) (mH (i + 1) ++ a.drop (i + 1))
    have hl : (mH i ++ a.drop i).length = a.length := by rw [List.length_append, mH_len, List.length_drop]; omega
    rw [laws_markHexS_in_l0, hl, dlt, d0, decide_eq_true hi, toNatC, wsucc (by omega), List.drop_eq_getElem_cons hi, set_at (mH_len i), getD_at (mH_len i), getD_at (mH_len i), set_at (mH_len i)]
    have hl2 : (mH i ++ (1 + 2 * (i : Int), a[i].2) :: a.drop (i + 1)).length = a.length := by rw [List.length_append, mH_len, List.length_cons, List.length_drop]; omega
    rw [hl2, dlt, decide_eq_true hi, w64 (n := 1 + 2 * (i : Int) + 1) (by omega), w64 (by omega), mH_succ, List.append_assoc, show 1 + 2 * (i : Int) + 1 + 1 = 1 + 2 * ((i + 1 : Nat) : Int) by omega, show 1 + 2 * (i : Int) + 1 = 2 + 2 * (i : Int) by omega]
    rfl
  · intro m
    have hl : (mH a.length ++ a.drop a.length) = mH a.length := by rw [List.drop_length, List.append_nil]
    show laws_markHexS_in_l0 k _ (m + 1) (1 + 2 * (a.length : Int)) (a.length : Int) (mH a.length ++ a.drop a.length) = _
    rw [hl, laws_markHexS_in_l0, mH_len, dlt, decide_eq_false (by omega)]; rfl
theorem heldHexS_eq {k : Nat} (n : Nat) (h : n < k) (hb : n ≤ 137438953472) (K : Int → Option R) : laws_heldHexS k (mH n) 1 K = K (1 + 2 * (n : Int)) := by
  unfold laws_heldHexS
  refine loop_det (fun m i s => laws_heldHexS_l0 k (fun x => K x) (fun x => K x) m (mH n) s (i : Int)) n (fun i => 1 + 2 * (i : Int)) _ ?_ ?_ k 0 (Nat.zero_le _) (by omega)
  · intro m i hi
    show laws_heldHexS_l0 k _ _ (m + 1) (mH n) (1 + 2 * (i : Int)) (i : Int) = laws_heldHexS_l0 k _ _ m (mH n) (1 + 2 * ((i + 1 : Nat) : Int)) ((i + 1 : Nat) : Int)
    have e : (mH n).getD i (0, 0) = (1 + 2 * (i : Int), 2 + 2 * (i : Int)) := by
      rw [getD_lt (by rw [mH_len]; exact hi)]; simp [mH]
    rw [laws_heldHexS_l0, mH_len, dlt, d0, decide_eq_true hi, toNatC, wsucc (by omega), e, decide_eq_true rfl, w64 (n := 1 + 2 * (i : Int) + 1) (by omega), w64 (by omega), decide_eq_true (by show 2 + 2 * (i : Int) = 1 + 2 * (i : Int) + 1; omega), show 1 + 2 * (i : Int) + 1 + 1 = 1 + 2 * ((i + 1 : Nat) : Int) by omega]
    rfl
  · intro m
    show laws_heldHexS_l0 k _ _ (m + 1) (mH n) (1 + 2 * (n : Int)) (n : Int) = _
    rw [laws_heldHexS_l0, mH_len, dlt, decide_eq_false (by omega)]; rfl
/-! ### marks of numbers -/
def mI (k0 : Int) (n : Nat) : List Int := (List.range n).map fun (i : Nat) => k0 + (i : Int)
theorem mI_len (k0 : Int) (n : Nat) : (mI k0 n).length = n := by simp [mI]
theorem mI_succ (k0 : Int) (n : Nat) : mI k0 (n + 1) = mI k0 n ++ [k0 + (n : Int)] := by unfold mI; rw [List.range_succ, List.map_append]; rfl
theorem markIntS_eq {k : Nat} (a : List Int) (k0 : Int) (hk : 0 ≤ k0 ∧ k0 ≤ 1000000000000) (h : a.length < k) (hb : a.length ≤ 137438953472) (K : List Int → Int → Option R) : laws_markIntS_in k a k0 K = K (mI k0 a.length) (k0 + (a.length : Int)) := by
  unfold laws_markIntS_in
  have h0 : a = mI k0 0 ++ a.drop 0 := by simp [mI]
  conv => lhs; rw [h0]
  have e0 : k0 = k0 + ((0 : Nat) : Int) := by omega
  conv => lhs; arg 4; rw [e0]
  refine loop_det (fun m i s => laws_markIntS_in_l0 k (fun x y => K y x) m (k0 + (i : Int)) (i : Int) s) a.length (fun i => mI k0 i ++ a.drop i) _ ?_ ?_ k 0 (Nat.zero_le _) (by omega)
  · intro m i hi
    show laws_markIntS_in_l0 k _ (m + 1) (k0 + (i : Int)) (i : Int) (mI k0 i ++ a.drop i) = laws_markIntS_in_l0 k _ m (k0 + ((i + 1 : Nat) : Int)) ((i + 1 : Nat) : Int) (mI k0 (i + 1) ++ a.drop (i + 1))
    have hl : (mI k0 i ++ a.drop i).length = a.length := by rw [List.length_append, mI_len, List.length_drop]; omega
    rw [laws_markIntS_in_l0, hl, dlt, d0, decide_eq_true hi, toNatC, wsucc (by omega), List.drop_eq_getElem_cons hi, set_at (mI_len k0 i), w64 (by omega), mI_succ, List.append_assoc, show k0 + (i : Int) + 1 = k0 + ((i + 1 : Nat) : Int) by omega]
    rfl
  · intro m
    have hl : (mI k0 a.length ++ a.drop a.length) = mI k0 a.length := by rw [List.drop_length, List.append_nil]
    show laws_markIntS_in_l0 k _ (m + 1) (k0 + (a.length : Int)) (a.length : Int) (mI k0 a.length ++ a.drop a.length) = _
    rw [hl, laws_markIntS_in_l0, mI_len, dlt, decide_eq_false (by omega)]; rfl
theorem heldIntS_eq {k : Nat} (n : Nat) (h : n < k) (hb : n ≤ 137438953472) (K : Int → Option R) : laws_heldIntS k (mI 1 n) 1 K = K (1 + (n : Int)) := by
  unfold laws_heldIntS
  refine loop_det (fun m i s => laws_heldIntS_l0 k (fun x => K x) (fun x => K x) m (mI 1 n) s (i : Int)) n (fun i => 1 + (i : Int)) _ ?_ ?_ k 0 (Nat.zero_le _) (by omega)
  · intro m i hi
    show laws_heldIntS_l0 k _ _ (m + 1) (mI 1 n) (1 + (i : Int)) (i : Int) = laws_heldIntS_l0 k _ _ m (mI 1 n) (1 + ((i + 1 : Nat) : Int)) ((i + 1 : Nat) : Int)
    have e : (mI 1 n).getD i 0 = 1 + (i : Int) := by
      rw [getD_lt (by rw [mI_len]; exact hi)]; simp [mI]
    rw [laws_heldIntS_l0, mI_len, dlt, d0, decide_eq_true hi, toNatC, wsucc (by omega), e, decide_eq_true rfl, w64 (by omega), show 1 + (i : Int) + 1 = 1 + ((i + 1 : Nat) : Int) by omega]
    rfl
  · intro m
    show laws_heldIntS_l0 k _ _ (m + 1) (mI 1 n) (1 + (n : Int)) (n : Int) = _
    rw [laws_heldIntS_l0, mI_len, dlt, decide_eq_false (by omega)]; rfl
end
end Go.Lg
/- What is near on a map; disks: the laws. -/
set_option linter.unusedSimpArgs false
set_option linter.unusedVariables false
namespace Go.Lg
open Go Go.Ev
section
variable {R α σ : Type}
/-! ### near on a map -/
def nearStep (m : MapT) (i rad : Int) (j : Nat) (out : List Int) : List Int := bif decide (dist (hexAt m i) (hexAt m (j : Int)) ≤ rad) then out ++ [(j : Int)] else out
def nearV (m : MapT) (i rad : Int) : List Int := iterN (nearStep m i rad) (m.2.2.1.length - 0) 0 []
theorem nearStep_len (m : MapT) (i rad : Int) (j : Nat) (out : List Int) (h : out.length ≤ j) : (nearStep m i rad j out).length ≤ j + 1 := by
  unfold nearStep
  cases decide (dist (hexAt m i) (hexAt m (j : Int)) ≤ rad)
  · rw [cond_false]; omega
  · rw [cond_true, List.length_append, List.length_singleton]; omega
theorem nearV_len (m : MapT) (i rad : Int) : (nearV m i rad).length ≤ m.2.2.1.length :=
  iterN_inv (nearStep m i rad) (fun j out => out.length ≤ j) m.2.2.1.length (fun j out _ h => nearStep_len m i rad j out h) (m.2.2.1.length - 0) 0 [] (by omega) (Nat.zero_le _)
section
variable {m : MapT} (hg : good m = true) {i rad : Int} (hi : 0 ≤ i ∧ i ≤ 99)
include hg hi
theorem mNear_eq {k : Nat} (hk : m.2.2.1.length < k) (K : List Int → Option R) : spec_mNear k m i rad K = K (nearV m i rad) := by
  have hm := good_dim hg
  have ha := area_le hm
  have hl := ter_len hg
  unfold spec_mNear
  refine loop_inv (fun q j out => spec_mNear_l0 k (fun x => K x) q i rad (j : Int) m out) m.2.2.1.length (nearStep m i rad) K (fun j out => out.length ≤ j) ?_ (fun j out _ h => nearStep_len m i rad j out h) ?_ k 0 [] (Nat.zero_le _) (Nat.zero_le _) (by omega)
  · intro q j out hj ho
    show spec_mNear_l0 k _ (q + 1) i rad (j : Int) m out = spec_mNear_l0 k _ q i rad ((j + 1 : Nat) : Int) m (nearStep m i rad j out)
    rw [spec_mNear_l0, mSize_eq hm, ← hl, dlt, decide_eq_true hj, cond_true, mHex_eq hm (by omega), mHex_eq hm (by omega), hDistance_eq (hexAt_near hm (by omega)) (hexAt_near hm (by omega)), wsucc (by omega), decide_eq_true (by unfold maxGrow; simp; omega : out.length + [(j : Int)].length ≤ maxGrow)]
    unfold nearStep
    cases decide (dist (hexAt m i) (hexAt m (j : Int)) ≤ rad) <;> rfl
  · intro q out _
    show spec_mNear_l0 k _ (q + 1) i rad (m.2.2.1.length : Int) m out = _
    rw [spec_mNear_l0, mSize_eq hm, ← hl, dlt, decide_eq_false (by omega)]; rfl
theorem iNear_eq {k : Nat} (hk : m.2.2.1.length < k) (K : List Int → Option R) : impl_NearOn_l0 k K k i rad (m.2.2.1.length : Int) 0 m [] = K (nearV m i rad) := by
  have hm := good_dim hg
  have ha := area_le hm
  have hl := ter_len hg
  refine loop_inv (fun q j out => impl_NearOn_l0 k K q i rad (m.2.2.1.length : Int) (j : Int) m out) m.2.2.1.length (nearStep m i rad) K (fun j out => out.length ≤ j) ?_ (fun j out _ h => nearStep_len m i rad j out h) ?_ k 0 [] (Nat.zero_le _) (Nat.zero_le _) (by omega)
  · intro q j out hj ho
    show impl_NearOn_l0 k _ (q + 1) i rad (m.2.2.1.length : Int) (j : Int) m out = impl_NearOn_l0 k _ q i rad (m.2.2.1.length : Int) ((j + 1 : Nat) : Int) m (nearStep m i rad j out)
    rw [impl_NearOn_l0, dlt, decide_eq_true hj, cond_true, hexOf_eq hm (by omega), hexOf_eq hm (by omega), distance_eq (hexAt_near hm (by omega)) (hexAt_near hm (by omega)), wsucc (by omega), decide_eq_true (by unfold maxGrow; simp; omega : out.length + [(j : Int)].length ≤ maxGrow)]
    unfold nearStep
    cases decide (dist (hexAt m i) (hexAt m (j : Int)) ≤ rad) <;> rfl
  · intro q out _
    show impl_NearOn_l0 k _ (q + 1) i rad (m.2.2.1.length : Int) (m.2.2.1.length : Int) m out = _
    rw [impl_NearOn_l0, dlt, decide_eq_false (by omega)]; rfl
end
theorem NearOn_same {m : MapT} (hs : small m) (i rad : Int) : ∃ v b, v.length ≤ 1048576 ∧ (∀ {R : Type} (K : List Int → Bool → Option R), spec_NearOn 4194304 m i rad K = K v b) ∧ ∀ {R : Type} (K : List Int → Bool → Option R), impl_NearOn 4194304 m i rad K = K v b := by
  have hs' := hs
  obtain ⟨s1, s2, s3⟩ := hs'
  cases hp : placeB m i
  · exact ⟨[], false, by simp, fun K => by unfold spec_NearOn; rw [mOn_eq hs, hp]; rfl, fun K => by unfold impl_NearOn; rw [isPlace_eq hs, hp]; rfl⟩
  cases hr : inB rad 0 20
  · exact ⟨[], false, by simp, fun K => by unfold spec_NearOn; rw [mOn_eq hs, hp, l1In_eq, hr]; rfl, fun K => by unfold impl_NearOn; rw [isPlace_eq hs, hp, inRange_eq, hr]; rfl⟩
  obtain ⟨hm, h1, h2⟩ := place_le hp
  have hg : good m = true := by
    unfold placeB at hp
    simp only [Bool.and_eq_true] at hp
    exact hp.1
  have hv := nearV_len m i rad
  exact ⟨nearV m i rad, true, by omega, fun K => by unfold spec_NearOn; rw [mOn_eq hs, hp, l1In_eq, hr, Bool.not_true, cond_false, cond_false, mNear_eq hg ⟨h1, h2⟩ (by omega)],
    fun K => by unfold impl_NearOn; rw [isPlace_eq hs, hp, inRange_eq, hr, Bool.not_true, cond_false, cond_false, iNear_eq hg ⟨h1, h2⟩ (by omega)]⟩
theorem markMap_eq {m : MapT} (hs : small m) (K : MapT → Int → Option R) : ∃ t : MapT, ∃ r : Int, 0 ≤ r ∧ laws_markMap_in 4194304 m 1 K = K t r := by
  obtain ⟨s1, s2, s3⟩ := hs
  refine ⟨(m.1, (m.2.1, (mI 1 m.2.2.1.length, (mI (1 + (m.2.2.1.length : Int)) m.2.2.2.1.length, mI (1 + (m.2.2.1.length : Int) + (m.2.2.2.1.length : Int)) m.2.2.2.2.length)))), 1 + (m.2.2.1.length : Int) + (m.2.2.2.1.length : Int) + (m.2.2.2.2.length : Int), by omega, ?_⟩
  unfold laws_markMap_in
  rw [markIntS_eq _ _ (by omega) (by omega) (by omega), markIntS_eq _ _ (by omega) (by omega) (by omega), markIntS_eq _ _ (by omega) (by omega) (by omega)]
theorem law_FnExactNearOn (m : MapT) (w : Wf MapTy m) (i : Int) (w2 : Wf (.int .i64) i) (rad : Int) (w3 : Wf (.int .i64) rad) (K : Bool → Option R) : laws_FnExactNearOn 4194304 m i rad K = K true := by
  obtain ⟨r, h1, h2⟩ := szMap_ret w 1048576 (by omega)
  unfold laws_FnExactNearOn
  rw [h1]
  rcases h2 with rfl | ⟨g1, g2, hs⟩
  · rfl
  · obtain ⟨v, b, hv, e1, e2⟩ := NearOn_same hs i rad
    have e3 : ((m.1, (m.2.1, (m.2.2.1, (m.2.2.2.1, m.2.2.2.2)))) : MapT) = m := rfl
    rw [decide_eq_false (by omega), cond_false, toMap_eq hs, e3, e1, toMap_eq hs, e3, e2, eqIntS_self _ (by omega) (by omega), toMap_eq hs, eqMap_self hs]
    simp only [Bool.not_true, cond_false, beq_self_eq_true]
    obtain ⟨t, q, hq, e4⟩ := markMap_eq hs (R := R) _
    refine e4.trans ?_
    rw [decide_eq_false (by omega), eqIntS_self _ (by omega) (by omega), markIntS_eq _ _ (by omega) (by omega) (by omega), heldIntS_eq _ (by omega) (by omega), decide_eq_false (by omega), decide_eq_true rfl, toMap_eq hs, e3, e2, eqIntS_self _ (by omega) (by omega), heldIntS_eq _ (by omega) (by omega), decide_eq_false (by omega), decide_eq_true rfl]
    simp
end
end Go.Lg
/- Disks: the law. -/
set_option linter.unusedSimpArgs false
set_option linter.unusedVariables false
namespace Go.Lg
open Go Go.Ev
section
variable {R α σ : Type}
theorem hAll_eq {k : Nat} (a : List (Int × Int)) (h : a.length < k) (hb : a.length ≤ 137438953472) (K : List (Int × Int) → Bool → Option R) : spec_hAll k a K = bif a.all okHex then K a true else K [] false := by
  unfold spec_hAll
  refine loop_all0 (fun m i => spec_hAll_l0 k (fun l1 => K l1 true) (fun x2 => K [] x2) m a a (a.length : Int) (i : Int)) a okHex (K a true) (K [] false) ?_ ?_ (m := k) h
  · intro m i hi
    show spec_hAll_l0 k _ _ (m + 1) a a _ (i : Int) = bif _ then spec_hAll_l0 k _ _ m a a _ ((i + 1 : Nat) : Int) else _
    rw [spec_hAll_l0, dlt, d0, decide_eq_true hi, toNatC, getD_lt hi, wsucc (by omega), hGood_eq]
    cases okHex a[i] <;> rfl
  · intro m
    show spec_hAll_l0 k _ _ (m + 1) a a (a.length : Int) (a.length : Int) = _
    rw [spec_hAll_l0, dlt, decide_eq_false (by omega)]; rfl
/-- A law's end, for hexes that are handed back. -/
def diskF (h : Int × Int) (rad q : Int) (i : Nat) (out : List (Int × Int)) : List (Int × Int) := bif decide (dist h (q, h.2 - rad + (i : Int)) ≤ rad) then out ++ [(q, h.2 - rad + (i : Int))] else out
def rowD (h : Int × Int) (rad q : Int) (out : List (Int × Int)) : List (Int × Int) := iterN (diskF h rad q) (Int.toNat (2 * rad + 1) - 0) 0 out
def diskV (h : Int × Int) (rad : Int) : List (Int × Int) := iterN (fun (i : Nat) out => rowD h rad (h.1 - rad + (i : Int)) out) (Int.toNat (2 * rad + 1) - 0) 0 []
theorem diskF_len (h : Int × Int) (rad q : Int) (i : Nat) (out : List (Int × Int)) : (diskF h rad q i out).length ≤ out.length + 1 := by
  unfold diskF
  cases decide (dist h (q, h.2 - rad + (i : Int)) ≤ rad)
  · rw [cond_false]; omega
  · rw [cond_true, List.length_append, List.length_singleton]; omega
theorem rowD_len (h : Int × Int) (rad q : Int) (out : List (Int × Int)) : (rowD h rad q out).length ≤ out.length + Int.toNat (2 * rad + 1) :=
  iterN_inv (diskF h rad q) (fun i o => o.length ≤ out.length + i) (Int.toNat (2 * rad + 1)) (fun i o _ ho => by have := diskF_len h rad q i o; omega) (Int.toNat (2 * rad + 1) - 0) 0 out (by omega) (by omega)
theorem diskV_len (h : Int × Int) (rad : Int) : (diskV h rad).length ≤ Int.toNat (2 * rad + 1) * Int.toNat (2 * rad + 1) :=
  iterN_inv (fun (i : Nat) out => rowD h rad (h.1 - rad + (i : Int)) out) (fun i o => o.length ≤ Int.toNat (2 * rad + 1) * i) (Int.toNat (2 * rad + 1)) (fun i o _ ho => by
    have := rowD_len h rad (h.1 - rad + (i : Int)) o
    rw [Nat.mul_add, Nat.mul_one]; omega) (Int.toNat (2 * rad + 1) - 0) 0 [] (by omega) (by simp)
section
variable {h : Int × Int} (hh : okHex h = true) {rad : Int} (hr : 0 ≤ rad ∧ rad ≤ 6)
include hh hr
theorem hDisk_l0_eq {k q : Nat} {qq : Int} {out : List (Int × Int)} (hq : h.1 - rad ≤ qq ∧ qq ≤ h.1 + rad) (hk : 13 < q) (ho : out.length ≤ 1000) (K0 : Int → Int → (Int × Int) → List (Int × Int) → Option R) : spec_hDisk_l0 k K0 q rad qq (h.2 - rad) h out = K0 rad qq h (rowD h rad qq out) := by
  obtain ⟨b1, b2⟩ := okHex_iff.1 hh
  have hn := okHex_near hh
  have e0 : h.2 - rad = h.2 - rad + ((0 : Nat) : Int) := by omega
  conv => lhs; arg 6; rw [e0]
  refine loop_inv (fun m i o => spec_hDisk_l0 k K0 m rad qq (h.2 - rad + (i : Int)) h o) (Int.toNat (2 * rad + 1)) (diskF h rad qq) (fun o => K0 rad qq h o) (fun i o => o.length ≤ 1000 + i) ?_ (fun i o _ ho => by have := diskF_len h rad qq i o; omega) ?_ q 0 out (Nat.zero_le _) (by omega) (by omega)
  · intro m i o hi ho
    show spec_hDisk_l0 k K0 (m + 1) rad qq (h.2 - rad + (i : Int)) h o = spec_hDisk_l0 k K0 m rad qq (h.2 - rad + ((i + 1 : Nat) : Int)) h (diskF h rad qq i o)
    have hn2 : near (qq, h.2 - rad + (i : Int)) := by unfold near; exact ⟨⟨by show -1000 ≤ qq; omega, by show qq ≤ 1000; omega⟩, by show -1000 ≤ h.2 - rad + (i : Int); omega, by show h.2 - rad + (i : Int) ≤ 1000; omega⟩
    rw [spec_hDisk_l0, w64 (n := h.2 + rad) (by omega), decide_eq_true (by omega : h.2 - rad + (i : Int) ≤ h.2 + rad), cond_true, hDistance_eq hn hn2, w64 (n := h.2 - rad + (i : Int) + 1) (by omega), show h.2 - rad + (i : Int) + 1 = h.2 - rad + ((i + 1 : Nat) : Int) by omega, decide_eq_true (by unfold maxGrow; simp; omega : o.length + [(qq, h.2 - rad + (i : Int))].length ≤ maxGrow)]
    unfold diskF
    cases decide (dist h (qq, h.2 - rad + (i : Int)) ≤ rad) <;> rfl
  · intro m o _
    show spec_hDisk_l0 k K0 (m + 1) rad qq (h.2 - rad + ((Int.toNat (2 * rad + 1) : Nat) : Int)) h o = _
    rw [spec_hDisk_l0, w64 (n := h.2 + rad) (by omega), decide_eq_false (by omega)]; rfl
theorem hDisk_l1_eq {k q : Nat} (hk : 13 < k) (hq : 13 < q) (K0 : List (Int × Int) → Option R) : spec_hDisk_l1 k K0 q rad (IntKind.wrap .i64 (h.1 - rad)) h [] = K0 (diskV h rad) := by
  obtain ⟨b1, b2⟩ := okHex_iff.1 hh
  rw [w64 (n := h.1 - rad) (by omega)]
  have e0 : h.1 - rad = h.1 - rad + ((0 : Nat) : Int) := by omega
  conv => lhs; arg 5; rw [e0]
  refine loop_inv (fun m i o => spec_hDisk_l1 k K0 m rad (h.1 - rad + (i : Int)) h o) (Int.toNat (2 * rad + 1)) (fun (i : Nat) out => rowD h rad (h.1 - rad + (i : Int)) out) K0 (fun i o => o.length ≤ 13 * i) ?_ (fun i o _ ho => by have := rowD_len h rad (h.1 - rad + (i : Int)) o; omega) ?_ q 0 [] (Nat.zero_le _) (by simp) (by omega)
  · intro m i o hi ho
    show spec_hDisk_l1 k K0 (m + 1) rad (h.1 - rad + (i : Int)) h o = spec_hDisk_l1 k K0 m rad (h.1 - rad + ((i + 1 : Nat) : Int)) h (rowD h rad (h.1 - rad + (i : Int)) o)
    rw [spec_hDisk_l1, w64 (n := h.1 + rad) (by omega), decide_eq_true (by omega : h.1 - rad + (i : Int) ≤ h.1 + rad), cond_true, w64 (n := h.2 - rad) (by omega), hDisk_l0_eq hh hr (by omega) hk (by omega), w64 (n := h.1 - rad + (i : Int) + 1) (by omega), show h.1 - rad + (i : Int) + 1 = h.1 - rad + ((i + 1 : Nat) : Int) by omega]
  · intro m o _
    show spec_hDisk_l1 k K0 (m + 1) rad (h.1 - rad + ((Int.toNat (2 * rad + 1) : Nat) : Int)) h o = _
    rw [spec_hDisk_l1, w64 (n := h.1 + rad) (by omega), decide_eq_false (by omega)]; rfl
theorem DiskOf_l0_eq {k q : Nat} {qq : Int} {out : List (Int × Int)} (hq : h.1 - rad ≤ qq ∧ qq ≤ h.1 + rad) (hk : 13 < q) (ho : out.length ≤ 1000) (K0 : Int → Int → (Int × Int) → List (Int × Int) → Option R) : impl_DiskOf_l0 k K0 q rad qq (h.2 - rad) h out = K0 rad qq h (rowD h rad qq out) := by
  obtain ⟨b1, b2⟩ := okHex_iff.1 hh
  have hn := okHex_near hh
  have e0 : h.2 - rad = h.2 - rad + ((0 : Nat) : Int) := by omega
  conv => lhs; arg 6; rw [e0]
  refine loop_inv (fun m i o => impl_DiskOf_l0 k K0 m rad qq (h.2 - rad + (i : Int)) h o) (Int.toNat (2 * rad + 1)) (diskF h rad qq) (fun o => K0 rad qq h o) (fun i o => o.length ≤ 1000 + i) ?_ (fun i o _ ho => by have := diskF_len h rad qq i o; omega) ?_ q 0 out (Nat.zero_le _) (by omega) (by omega)
  · intro m i o hi ho
    show impl_DiskOf_l0 k K0 (m + 1) rad qq (h.2 - rad + (i : Int)) h o = impl_DiskOf_l0 k K0 m rad qq (h.2 - rad + ((i + 1 : Nat) : Int)) h (diskF h rad qq i o)
    have hn2 : near (qq, h.2 - rad + (i : Int)) := by unfold near; exact ⟨⟨by show -1000 ≤ qq; omega, by show qq ≤ 1000; omega⟩, by show -1000 ≤ h.2 - rad + (i : Int); omega, by show h.2 - rad + (i : Int) ≤ 1000; omega⟩
    rw [impl_DiskOf_l0, w64 (n := h.2 + rad) (by omega), decide_eq_true (by omega : h.2 - rad + (i : Int) ≤ h.2 + rad), cond_true, distance_eq hn hn2, w64 (n := h.2 - rad + (i : Int) + 1) (by omega), show h.2 - rad + (i : Int) + 1 = h.2 - rad + ((i + 1 : Nat) : Int) by omega, decide_eq_true (by unfold maxGrow; simp; omega : o.length + [(qq, h.2 - rad + (i : Int))].length ≤ maxGrow)]
    unfold diskF
    cases decide (dist h (qq, h.2 - rad + (i : Int)) ≤ rad) <;> rfl
  · intro m o _
    show impl_DiskOf_l0 k K0 (m + 1) rad qq (h.2 - rad + ((Int.toNat (2 * rad + 1) : Nat) : Int)) h o = _
    rw [impl_DiskOf_l0, w64 (n := h.2 + rad) (by omega), decide_eq_false (by omega)]; rfl
theorem DiskOf_l1_eq {k q : Nat} (hk : 13 < k) (hq : 13 < q) (K0 : List (Int × Int) → Option R) : impl_DiskOf_l1 k K0 q rad (IntKind.wrap .i64 (h.1 - rad)) h [] = K0 (diskV h rad) := by
  obtain ⟨b1, b2⟩ := okHex_iff.1 hh
  rw [w64 (n := h.1 - rad) (by omega)]
  have e0 : h.1 - rad = h.1 - rad + ((0 : Nat) : Int) := by omega
  conv => lhs; arg 5; rw [e0]
  refine loop_inv (fun m i o => impl_DiskOf_l1 k K0 m rad (h.1 - rad + (i : Int)) h o) (Int.toNat (2 * rad + 1)) (fun (i : Nat) out => rowD h rad (h.1 - rad + (i : Int)) out) K0 (fun i o => o.length ≤ 13 * i) ?_ (fun i o _ ho => by have := rowD_len h rad (h.1 - rad + (i : Int)) o; omega) ?_ q 0 [] (Nat.zero_le _) (by simp) (by omega)
  · intro m i o hi ho
    show impl_DiskOf_l1 k K0 (m + 1) rad (h.1 - rad + (i : Int)) h o = impl_DiskOf_l1 k K0 m rad (h.1 - rad + ((i + 1 : Nat) : Int)) h (rowD h rad (h.1 - rad + (i : Int)) o)
    rw [impl_DiskOf_l1, w64 (n := h.1 + rad) (by omega), decide_eq_true (by omega : h.1 - rad + (i : Int) ≤ h.1 + rad), cond_true, w64 (n := h.2 - rad) (by omega), DiskOf_l0_eq hh hr (by omega) hk (by omega), w64 (n := h.1 - rad + (i : Int) + 1) (by omega), show h.1 - rad + (i : Int) + 1 = h.1 - rad + ((i + 1 : Nat) : Int) by omega]
  · intro m o _
    show impl_DiskOf_l1 k K0 (m + 1) rad (h.1 - rad + ((Int.toNat (2 * rad + 1) : Nat) : Int)) h o = _
    rw [impl_DiskOf_l1, w64 (n := h.1 + rad) (by omega), decide_eq_false (by omega)]; rfl
theorem hDisk_eq {k : Nat} (hk : 13 < k) (K : List (Int × Int) → Option R) : spec_hDisk k h rad K = K (diskV h rad) := by
  unfold spec_hDisk
  exact hDisk_l1_eq hh hr hk hk _
end
theorem DiskOf_same (h : Int × Int) (rad : Int) : ∃ v b, v.length ≤ 1048576 ∧ (∀ {R : Type} (K : List (Int × Int) → Bool → Option R), spec_DiskOf 4194304 h rad K = K v b) ∧ ∀ {R : Type} (K : List (Int × Int) → Bool → Option R), impl_DiskOf 4194304 h rad K = K v b := by
  cases hh : okHex h
  · exact ⟨[], false, by simp, fun K => by unfold spec_DiskOf; rw [hGood_eq, hh]; rfl, fun K => by unfold impl_DiskOf; rw [IsHex_eq, hh]; rfl⟩
  cases hr : inB rad 0 6
  · exact ⟨[], false, by simp, fun K => by unfold spec_DiskOf; rw [hGood_eq, hh, l1In_eq, hr]; rfl, fun K => by unfold impl_DiskOf; rw [IsHex_eq, hh, inRange_eq, hr]; rfl⟩
  have hr' := inB_iff.1 hr
  have hl := diskV_len h rad
  have hl2 : (diskV h rad).length ≤ 169 := by
    have h13 : Int.toNat (2 * rad + 1) ≤ 13 := by omega
    have := Nat.mul_le_mul h13 h13
    omega
  cases ha : (diskV h rad).all okHex
  · exact ⟨[], false, by simp, fun K => by unfold spec_DiskOf; rw [hGood_eq, hh, l1In_eq, hr, Bool.not_true, cond_false, cond_false, hDisk_eq hh hr' (by omega), hAll_eq _ (by omega) (by omega), ha]; rfl,
      fun K => by unfold impl_DiskOf; rw [IsHex_eq, hh, inRange_eq, hr, Bool.not_true, cond_false, cond_false, DiskOf_l1_eq hh hr' (by omega) (by omega), allHexes_eq _ (by omega) (by omega), ha]; rfl⟩
  · exact ⟨diskV h rad, true, by omega, fun K => by unfold spec_DiskOf; rw [hGood_eq, hh, l1In_eq, hr, Bool.not_true, cond_false, cond_false, hDisk_eq hh hr' (by omega), hAll_eq _ (by omega) (by omega), ha]; rfl,
      fun K => by unfold impl_DiskOf; rw [IsHex_eq, hh, inRange_eq, hr, Bool.not_true, cond_false, cond_false, DiskOf_l1_eq hh hr' (by omega) (by omega), allHexes_eq _ (by omega) (by omega), ha]; rfl⟩
theorem law_FnExactDiskOf (h : Int × Int) (w : Wf (.st (.pair (.int .i64) (.int .i64))) h) (rad : Int) (w2 : Wf (.int .i64) rad) (K : Bool → Option R) : laws_FnExactDiskOf 4194304 h rad K = K true := by
  obtain ⟨v, b, hv, e1, e2⟩ := DiskOf_same h rad
  unfold laws_FnExactDiskOf
  rw [toHex_eq, e1, toHex_eq, e2, eqHexS_self _ (by omega) (by omega), markHexS_eq _ (by omega) (by omega), heldHexS_eq _ (by omega) (by omega), decide_eq_false (by omega), decide_eq_true rfl, toHex_eq, e2, eqHexS_self _ (by omega) (by omega), heldHexS_eq _ (by omega) (by omega), decide_eq_false (by omega), decide_eq_true rfl]
  simp
end
end Go.Lg
/- Walks and rings: the laws. -/
set_option linter.unusedSimpArgs false
set_option linter.unusedVariables false
namespace Go.Lg
open Go Go.Ev
section
variable {R α σ : Type}
/-! ### walks -/
/-- The hexes of a walk. -/
def walkV : Int × Int → List Int → List (Int × Int)
  | _, [] => []
  | h, d :: ds => step h d :: walkV (step h d) ds
theorem walkV_len : ∀ (ds : List Int) (h : Int × Int), (walkV h ds).length = ds.length
  | [], h => rfl
  | d :: ds, h => by show (walkV (step h d) ds).length + 1 = ds.length + 1; rw [walkV_len ds]
def nearN (h : Int × Int) (n : Int) : Prop := (-n ≤ h.1 ∧ h.1 ≤ n) ∧ -n ≤ h.2 ∧ h.2 ≤ n
theorem step_near {h : Int × Int} {n d : Int} (hn : nearN h n) : nearN (step h d) (n + 1) := by
  obtain ⟨⟨d1, d2⟩, d3, d4⟩ := dirs_le d
  obtain ⟨⟨h1, h2⟩, h3, h4⟩ := hn
  unfold nearN step
  refine ⟨⟨?_, ?_⟩, ?_, ?_⟩
  · show -(n + 1) ≤ h.1 + (impl_directions.getD d.toNat (0, 0)).1; omega
  · show h.1 + (impl_directions.getD d.toNat (0, 0)).1 ≤ n + 1; omega
  · show -(n + 1) ≤ h.2 + (impl_directions.getD d.toNat (0, 0)).2; omega
  · show h.2 + (impl_directions.getD d.toNat (0, 0)).2 ≤ n + 1; omega
theorem nearN_near {h : Int × Int} {n : Int} (hn : nearN h n) (h0 : n ≤ 1000) : near h := by
  obtain ⟨⟨h1, h2⟩, h3, h4⟩ := hn
  exact ⟨⟨by omega, by omega⟩, by omega, by omega⟩
/-- The spec's walk. -/
theorem sWalk_gen {k : Nat} (x : List Int) (hx : ∀ d ∈ x, 0 ≤ d ∧ d ≤ 5) (hl : x.length ≤ 60) (K : List (Int × Int) → Option R) : ∀ (m i : Nat) (h : Int × Int) (out : List (Int × Int)), i ≤ x.length → nearN h (40 + (i : Int)) → out.length ≤ i → x.length - i < m →
    spec_WalkFrom_l0 k K m x (x.length : Int) (i : Int) h out = K (out ++ walkV h (x.drop i)) := by
  intro m
  induction m with
  | zero => intro i h out h1 h2 h3 h4; omega
  | succ m ih =>
    intro i h out h1 h2 h3 h4
    rcases Nat.lt_or_ge i x.length with hi | hi
    · have hd := hx _ (List.getElem_mem hi)
      rw [spec_WalkFrom_l0, dlt, d0, decide_eq_true hi, toNatC, getD_lt hi, wsucc (by omega)]
      simp only [Bool.and_self, cond_true]
      rw [hStep_step (nearN_near h2 (by omega)) hd, decide_eq_true (by unfold maxGrow; simp; omega), cond_true, ih (i + 1) _ _ (by omega) (by have := step_near (d := x[i]) h2; rw [show (40 : Int) + ((i + 1 : Nat) : Int) = 40 + (i : Int) + 1 by omega]; exact this) (by simp; omega) (by omega), List.drop_eq_getElem_cons hi, List.append_assoc]
      rfl
    · have : i = x.length := by omega
      subst this
      rw [spec_WalkFrom_l0, dlt, decide_eq_false (by omega), List.drop_length]
      simp [walkV]
/-- The program's walk: it stops at the first that is bad. -/
theorem iWalk_gen {k : Nat} (x : List Int) (hx : ∀ d ∈ x, 0 ≤ d ∧ d ≤ 5) (hl : x.length ≤ 60) (K : List (Int × Int) → Option R) (K1 : Bool → Option R) : ∀ (m i : Nat) (h : Int × Int) (out : List (Int × Int)), i ≤ x.length → nearN h (40 + (i : Int)) → out.length ≤ i → x.length - i < m →
    impl_WalkFrom_l1 k K K1 m x (x.length : Int) (i : Int) h out = bif (walkV h (x.drop i)).all okHex then K (out ++ walkV h (x.drop i)) else K1 false := by
  intro m
  induction m with
  | zero => intro i h out h1 h2 h3 h4; omega
  | succ m ih =>
    intro i h out h1 h2 h3 h4
    rcases Nat.lt_or_ge i x.length with hi | hi
    · have hd := hx _ (List.getElem_mem hi)
      rw [impl_WalkFrom_l1, dlt, d0, decide_eq_true hi, toNatC, getD_lt hi, wsucc (by omega)]
      simp only [Bool.and_self, cond_true]
      rw [stepBy_eq (nearN_near h2 (by omega)) hd, IsHex_eq, List.drop_eq_getElem_cons hi]
      show (bif !okHex (step h x[i]) then K1 false else _) = bif okHex (step h x[i]) && (walkV (step h x[i]) (x.drop (i + 1))).all okHex then K (out ++ step h x[i] :: walkV (step h x[i]) (x.drop (i + 1))) else K1 false
      cases okHex (step h x[i])
      · rfl
      · rw [Bool.not_true, cond_false, decide_eq_true (by unfold maxGrow; simp; omega), cond_true, ih (i + 1) _ _ (by omega) (by have := step_near (d := x[i]) h2; rw [show (40 : Int) + ((i + 1 : Nat) : Int) = 40 + (i : Int) + 1 by omega]; exact this) (by simp; omega) (by omega), Bool.true_and, List.append_assoc]
        rfl
    · have : i = x.length := by omega
      subst this
      rw [impl_WalkFrom_l1, dlt, decide_eq_false (by omega), List.drop_length]
      simp [walkV]
theorem dirs_all {k q : Nat} (x : List Int) (hl : x.length < q) (hb : x.length ≤ 137438953472) (h : Int × Int) (K0 : List Int → Int × Int → Option R) (K1 : Bool → Option R) : impl_WalkFrom_l0 k K0 K1 q x x (x.length : Int) 0 h = bif x.all (fun d => inB d 0 5) then K0 x h else K1 false := by
  refine loop_all0 (fun m i => impl_WalkFrom_l0 k K0 K1 m x x (x.length : Int) (i : Int) h) x (fun d => inB d 0 5) (K0 x h) (K1 false) ?_ ?_ hl
  · intro m i hi
    show impl_WalkFrom_l0 k K0 K1 (m + 1) x x (x.length : Int) (i : Int) h = bif _ then impl_WalkFrom_l0 k K0 K1 m x x (x.length : Int) ((i + 1 : Nat) : Int) h else _
    rw [impl_WalkFrom_l0, dlt, d0, decide_eq_true hi, toNatC, getD_lt hi, wsucc (by omega), isDirection_eq]
    cases inB x[i] 0 5 <;> rfl
  · intro m
    show impl_WalkFrom_l0 k K0 K1 (m + 1) x x (x.length : Int) (x.length : Int) h = _
    rw [impl_WalkFrom_l0, dlt, decide_eq_false (by omega)]; rfl
theorem WalkFrom_same (h : Int × Int) (x : List Int) (hx : x.length ≤ 1048576) : ∃ v b, v.length ≤ 1048576 ∧ (∀ {R : Type} (K : List (Int × Int) → Bool → Option R), spec_WalkFrom 4194304 h x K = K v b) ∧ ∀ {R : Type} (K : List (Int × Int) → Bool → Option R), impl_WalkFrom 4194304 h x K = K v b := by
  cases hh : okHex h
  · exact ⟨[], false, by simp, fun K => by unfold spec_WalkFrom; rw [hGood_eq, hh]; rfl, fun K => by unfold impl_WalkFrom; rw [IsHex_eq, hh]; rfl⟩
  by_cases hl : (60 : Int) < (x.length : Int)
  · exact ⟨[], false, by simp, fun K => by unfold spec_WalkFrom; rw [hGood_eq, hh, decide_eq_true hl]; rfl, fun K => by unfold impl_WalkFrom; rw [IsHex_eq, hh, decide_eq_true hl]; rfl⟩
  cases hd : x.all (fun d => inB d 0 5)
  · exact ⟨[], false, by simp, fun K => by unfold spec_WalkFrom; rw [hGood_eq, hh, decide_eq_false hl, l1All_eq _ _ _ (by omega) (by omega), hd]; rfl, fun K => by unfold impl_WalkFrom; rw [IsHex_eq, hh, decide_eq_false hl, dirs_all _ (by omega) (by omega), hd]; rfl⟩
  obtain ⟨b1, b2⟩ := okHex_iff.1 hh
  have hdd : ∀ d ∈ x, 0 ≤ d ∧ d ≤ 5 := fun d hm => inB_iff.1 (List.all_eq_true.1 hd d hm)
  have hn : nearN h (40 + ((0 : Nat) : Int)) := by unfold nearN; omega
  have hw := walkV_len x h
  cases ha : (walkV h x).all okHex
  · refine ⟨[], false, by simp, fun {R} K => ?_, fun {R} K => ?_⟩
    · unfold spec_WalkFrom
      rw [hGood_eq, hh, decide_eq_false hl, l1All_eq _ _ _ (by omega) (by omega), hd, Bool.not_true, cond_false, cond_false, cond_false]
      refine (sWalk_gen x hdd (by omega) _ _ 0 h [] (Nat.zero_le _) hn (Nat.zero_le _) (by omega)).trans ?_
      rw [List.drop_zero, List.nil_append, hAll_eq _ (by omega) (by omega), ha]; rfl
    · unfold impl_WalkFrom
      rw [IsHex_eq, hh, decide_eq_false hl, dirs_all _ (by omega) (by omega), hd, Bool.not_true, cond_false, cond_false, cond_true]
      refine (iWalk_gen x hdd (by omega) _ _ _ 0 h [] (Nat.zero_le _) hn (Nat.zero_le _) (by omega)).trans ?_
      rw [List.drop_zero, ha]; rfl
  · refine ⟨walkV h x, true, by omega, fun {R} K => ?_, fun {R} K => ?_⟩
    · unfold spec_WalkFrom
      rw [hGood_eq, hh, decide_eq_false hl, l1All_eq _ _ _ (by omega) (by omega), hd, Bool.not_true, cond_false, cond_false, cond_false]
      refine (sWalk_gen x hdd (by omega) _ _ 0 h [] (Nat.zero_le _) hn (Nat.zero_le _) (by omega)).trans ?_
      rw [List.drop_zero, List.nil_append, hAll_eq _ (by omega) (by omega), ha]; rfl
    · unfold impl_WalkFrom
      rw [IsHex_eq, hh, decide_eq_false hl, dirs_all _ (by omega) (by omega), hd, Bool.not_true, cond_false, cond_false, cond_true]
      refine (iWalk_gen x hdd (by omega) _ _ _ 0 h [] (Nat.zero_le _) hn (Nat.zero_le _) (by omega)).trans ?_
      rw [List.drop_zero, ha]; rfl
theorem law_FnExactWalkFrom (h : Int × Int) (w : Wf (.st (.pair (.int .i64) (.int .i64))) h) (x : List Int) (w2 : Wf (.sl (.int .i64)) x) (K : Bool → Option R) : laws_FnExactWalkFrom 4194304 h x K = K true := by
  unfold laws_FnExactWalkFrom
  by_cases hx : (1048576 : Int) < (x.length : Int)
  · rw [decide_eq_true hx]; rfl
  · obtain ⟨v, b, hv, e1, e2⟩ := WalkFrom_same h x (by omega)
    rw [decide_eq_false hx, cond_false, toHex_eq, toIntS_eq _ (by omega) (by omega), e1, toIntS_eq _ (by omega) (by omega), toHex_eq, e2, eqHexS_self _ (by omega) (by omega), toIntS_eq _ (by omega) (by omega), eqIntS_self _ (by omega) (by omega), markIntS_eq _ _ (by omega) (by omega) (by omega), decide_eq_false (by omega), eqHexS_self _ (by omega) (by omega), markHexS_eq _ (by omega) (by omega), heldHexS_eq _ (by omega) (by omega), decide_eq_false (by omega), decide_eq_true rfl, toHex_eq, toIntS_eq _ (by omega) (by omega), e2, eqHexS_self _ (by omega) (by omega), heldHexS_eq _ (by omega) (by omega), decide_eq_false (by omega), decide_eq_true rfl]
    simp
end
end Go.Lg
/- Rings: the law. -/
set_option linter.unusedSimpArgs false
set_option linter.unusedVariables false
namespace Go.Lg
open Go Go.Ev
section
variable {R α σ : Type}
def ringStep (d : Int) (s : List (Int × Int) × (Int × Int)) : List (Int × Int) × (Int × Int) := (s.1 ++ [s.2], step s.2 d)
def segR (d : Int) (n : Nat) (s : List (Int × Int) × (Int × Int)) : List (Int × Int) × (Int × Int) := iterN (fun _ s => ringStep d s) n 0 s
def ringP (B : Int) (C : Nat) (i : Nat) (s : List (Int × Int) × (Int × Int)) : Prop := nearN s.2 (B + (i : Int)) ∧ s.1.length ≤ C + i
theorem ringStep_ok {B : Int} {C i : Nat} {d : Int} {s : List (Int × Int) × (Int × Int)} (h : ringP B C i s) : ringP B C (i + 1) (ringStep d s) := by
  obtain ⟨h1, h2⟩ := h
  refine ⟨?_, ?_⟩
  · have := step_near (d := d) h1
    rw [show B + ((i + 1 : Nat) : Int) = B + (i : Int) + 1 by omega]
    exact this
  · show (s.1 ++ [s.2]).length ≤ C + (i + 1)
    rw [List.length_append, List.length_singleton]; omega
theorem segR_ok {B : Int} {C n : Nat} {d : Int} {s : List (Int × Int) × (Int × Int)} (h : ringP B C 0 s) : ringP B C n (segR d n s) :=
  iterN_inv (fun _ s => ringStep d s) (ringP B C) n (fun i s _ hs => ringStep_ok hs) n 0 s (by omega) h
section
variable {rad : Int} (hr : 0 ≤ rad ∧ rad ≤ 6)
include hr
theorem sSeg_eq {k q : Nat} {d : Int} (hd : 0 ≤ d ∧ d ≤ 5) {B : Int} {C : Nat} (hB : B ≤ 900) (hC : C ≤ 1000) (hq : 6 < q) (h : Int × Int) (out : List (Int × Int)) (hp : ringP B C 0 (out, h)) (K0 : Int → Int → (Int × Int) → List (Int × Int) → Option R) :
    spec_hRing_l1 k K0 q rad d 0 h out = K0 rad d (segR d (Int.toNat rad) (out, h)).2 (segR d (Int.toNat rad) (out, h)).1 := by
  refine loop_inv (fun m i (s : List (Int × Int) × (Int × Int)) => spec_hRing_l1 k K0 m rad d (i : Int) s.2 s.1) (Int.toNat rad) (fun _ s => ringStep d s) (fun s => K0 rad d s.2 s.1) (ringP B C) ?_ (fun i s _ hs => ringStep_ok hs) ?_ q 0 (out, h) (Nat.zero_le _) hp (by omega)
  · intro m i s hi hs
    show spec_hRing_l1 k K0 (m + 1) rad d (i : Int) s.2 s.1 = spec_hRing_l1 k K0 m rad d ((i + 1 : Nat) : Int) (step s.2 d) (s.1 ++ [s.2])
    have h2 := hs.2
    rw [spec_hRing_l1, decide_eq_true (by omega : (i : Int) < rad), cond_true, hStep_step (nearN_near hs.1 (by omega)) hd, wsucc (by omega), decide_eq_true (by unfold maxGrow; simp; omega : s.1.length + [s.2].length ≤ maxGrow)]
    rfl
  · intro m s _
    show spec_hRing_l1 k K0 (m + 1) rad d ((Int.toNat rad : Nat) : Int) s.2 s.1 = _
    rw [spec_hRing_l1, decide_eq_false (by omega)]; rfl
theorem iSeg_eq {k q : Nat} {d x : Int} (hd : 0 ≤ d ∧ d ≤ 5) {B : Int} {C : Nat} (hB : B ≤ 900) (hC : C ≤ 1000) (hq : 6 < q) (h : Int × Int) (out : List (Int × Int)) (hp : ringP B C 0 (out, h)) (K0 : Int → Int → List (Int × Int) → (Int × Int) → Option R) :
    impl_RingOf_l0 k K0 q rad d x rad 0 out h = K0 rad x (segR d (Int.toNat rad) (out, h)).1 (segR d (Int.toNat rad) (out, h)).2 := by
  refine loop_inv (fun m i (s : List (Int × Int) × (Int × Int)) => impl_RingOf_l0 k K0 m rad d x rad (i : Int) s.1 s.2) (Int.toNat rad) (fun _ s => ringStep d s) (fun s => K0 rad x s.1 s.2) (ringP B C) ?_ (fun i s _ hs => ringStep_ok hs) ?_ q 0 (out, h) (Nat.zero_le _) hp (by omega)
  · intro m i s hi hs
    show impl_RingOf_l0 k K0 (m + 1) rad d x rad (i : Int) s.1 s.2 = impl_RingOf_l0 k K0 m rad d x rad ((i + 1 : Nat) : Int) (s.1 ++ [s.2]) (step s.2 d)
    have h2 := hs.2
    rw [impl_RingOf_l0, decide_eq_true (by omega : (i : Int) < rad), cond_true, stepBy_eq (nearN_near hs.1 (by omega)) hd, wsucc (by omega), decide_eq_true (by unfold maxGrow; simp; omega : s.1.length + [s.2].length ≤ maxGrow)]
    rfl
  · intro m s _
    show impl_RingOf_l0 k K0 (m + 1) rad d x rad ((Int.toNat rad : Nat) : Int) s.1 s.2 = _
    rw [impl_RingOf_l0, decide_eq_false (by omega)]; rfl
omit hr in
def ringV (rad : Int) (s : List (Int × Int) × (Int × Int)) : List (Int × Int) × (Int × Int) := iterN (fun (i : Nat) s => segR (i : Int) (Int.toNat rad) s) (6 - 0) 0 s
omit hr in
def outP (i : Nat) (s : List (Int × Int) × (Int × Int)) : Prop := nearN s.2 (46 + 6 * (i : Int)) ∧ s.1.length ≤ 1 + 6 * i
theorem out_step {i : Nat} {d : Int} {s : List (Int × Int) × (Int × Int)} (h : outP i s) : outP (i + 1) (segR d (Int.toNat rad) s) := by
  obtain ⟨h1, h2⟩ := h
  obtain ⟨g1, g2⟩ := segR_ok (B := 46 + 6 * (i : Int)) (C := 1 + 6 * i) (n := Int.toNat rad) (d := d) (s := s) ⟨by rw [show 46 + 6 * (i : Int) + ((0 : Nat) : Int) = 46 + 6 * (i : Int) by omega]; exact h1, by omega⟩
  refine ⟨?_, by omega⟩
  obtain ⟨⟨a1, a2⟩, a3, a4⟩ := g1
  unfold nearN
  omega
theorem ringV_len {s : List (Int × Int) × (Int × Int)} (h : outP 0 s) : (ringV rad s).1.length ≤ 37 := by
  have := iterN_inv (fun (i : Nat) s => segR (i : Int) (Int.toNat rad) s) outP 6 (fun i s _ hs => out_step hr hs) (6 - 0) 0 s (by omega) h
  exact this.2
theorem outP_ring {i : Nat} {s : List (Int × Int) × (Int × Int)} (h : outP i s) : ringP (46 + 6 * (i : Int)) (1 + 6 * i) 0 s :=
  ⟨by rw [show 46 + 6 * (i : Int) + ((0 : Nat) : Int) = 46 + 6 * (i : Int) by omega]; exact h.1, by have := h.2; omega⟩
theorem sRing_eq {k q : Nat} (hk : 6 < k) (hq : 6 < q) (s : List (Int × Int) × (Int × Int)) (hp : outP 0 s) (K0 : List (Int × Int) → Option R) : spec_hRing_l2 k K0 q rad 0 s.2 s.1 = K0 (ringV rad s).1 := by
  refine loop_inv (fun m i (s : List (Int × Int) × (Int × Int)) => spec_hRing_l2 k K0 m rad (i : Int) s.2 s.1) 6 (fun (i : Nat) s => segR (i : Int) (Int.toNat rad) s) (fun s => K0 s.1) outP ?_ (fun i s _ hs => out_step hr hs) ?_ q 0 s (Nat.zero_le _) hp (by omega)
  · intro m i s hi hs
    show spec_hRing_l2 k K0 (m + 1) rad (i : Int) s.2 s.1 = spec_hRing_l2 k K0 m rad ((i + 1 : Nat) : Int) (segR (i : Int) (Int.toNat rad) s).2 (segR (i : Int) (Int.toNat rad) s).1
    rw [spec_hRing_l2, decide_eq_true (by omega : (i : Int) < 6), cond_true, sSeg_eq hr (by omega) (by omega) (by omega) hk s.2 s.1 (outP_ring hr hs), wsucc (by omega)]
  · intro m s _
    show spec_hRing_l2 k K0 (m + 1) rad ((6 : Nat) : Int) s.2 s.1 = _
    rw [spec_hRing_l2, decide_eq_false (by omega)]; rfl
theorem iRing_eq {k q : Nat} (hk : 6 < k) (hq : 6 < q) (s : List (Int × Int) × (Int × Int)) (hp : outP 0 s) (K0 : List (Int × Int) → Option R) : impl_RingOf_l1 k K0 q rad 0 s.1 s.2 = K0 (ringV rad s).1 := by
  refine loop_inv (fun m i (s : List (Int × Int) × (Int × Int)) => impl_RingOf_l1 k K0 m rad (i : Int) s.1 s.2) 6 (fun (i : Nat) s => segR (i : Int) (Int.toNat rad) s) (fun s => K0 s.1) outP ?_ (fun i s _ hs => out_step hr hs) ?_ q 0 s (Nat.zero_le _) hp (by omega)
  · intro m i s hi hs
    show impl_RingOf_l1 k K0 (m + 1) rad (i : Int) s.1 s.2 = impl_RingOf_l1 k K0 m rad ((i + 1 : Nat) : Int) (segR (i : Int) (Int.toNat rad) s).1 (segR (i : Int) (Int.toNat rad) s).2
    rw [impl_RingOf_l1, decide_eq_true (by omega : (i : Int) < 6), cond_true, iSeg_eq hr (by omega) (by omega) (by omega) hk s.2 s.1 (outP_ring hr hs), wsucc (by omega)]
  · intro m s _
    show impl_RingOf_l1 k K0 (m + 1) rad ((6 : Nat) : Int) s.1 s.2 = _
    rw [impl_RingOf_l1, decide_eq_false (by omega)]; rfl
theorem sFirst_eq {k q : Nat} (hq : 6 < q) (h : Int × Int) (hh : okHex h = true) (K0 : Int → (Int × Int) → Option R) : spec_hRing_l0 k K0 q rad 0 h = K0 rad (h.1 - rad, h.2 + rad) := by
  obtain ⟨b1, b2⟩ := okHex_iff.1 hh
  have e0 : h = (h.1 - ((0 : Nat) : Int), h.2 + ((0 : Nat) : Int)) := by
    apply Prod.ext
    · show h.1 = h.1 - ((0 : Nat) : Int); omega
    · show h.2 = h.2 + ((0 : Nat) : Int); omega
  conv => lhs; arg 6; rw [e0]
  refine loop_det (fun m i s => spec_hRing_l0 k K0 m rad (i : Int) s) (Int.toNat rad) (fun i => (h.1 - (i : Int), h.2 + (i : Int))) _ ?_ ?_ q 0 (Nat.zero_le _) (by omega)
  · intro m i hi
    show spec_hRing_l0 k K0 (m + 1) rad (i : Int) (h.1 - (i : Int), h.2 + (i : Int)) = spec_hRing_l0 k K0 m rad ((i + 1 : Nat) : Int) (h.1 - ((i + 1 : Nat) : Int), h.2 + ((i + 1 : Nat) : Int))
    have hn : near (h.1 - (i : Int), h.2 + (i : Int)) := by
      unfold near
      refine ⟨⟨?_, ?_⟩, ?_, ?_⟩
      · show -1000 ≤ h.1 - (i : Int); omega
      · show h.1 - (i : Int) ≤ 1000; omega
      · show -1000 ≤ h.2 + (i : Int); omega
      · show h.2 + (i : Int) ≤ 1000; omega
    rw [spec_hRing_l0, decide_eq_true (by omega : (i : Int) < rad), cond_true, hStep_step hn (by omega), wsucc (by omega)]
    have e : step (h.1 - (i : Int), h.2 + (i : Int)) 4 = (h.1 - ((i + 1 : Nat) : Int), h.2 + ((i + 1 : Nat) : Int)) := by
      show (h.1 - (i : Int) + (-1), h.2 + (i : Int) + 1) = _
      apply Prod.ext
      · show h.1 - (i : Int) + (-1) = h.1 - ((i + 1 : Nat) : Int); omega
      · show h.2 + (i : Int) + 1 = h.2 + ((i + 1 : Nat) : Int); omega
    rw [e]
  · intro m
    show spec_hRing_l0 k K0 (m + 1) rad ((Int.toNat rad : Nat) : Int) (h.1 - ((Int.toNat rad : Nat) : Int), h.2 + ((Int.toNat rad : Nat) : Int)) = _
    rw [spec_hRing_l0, decide_eq_false (by omega), show ((Int.toNat rad : Nat) : Int) = rad by omega]; rfl
theorem iFirst_eq (h : Int × Int) (hh : okHex h = true) (K : (Int × Int) → Option R) : impl_stepBy h 4 rad K = K (h.1 - rad, h.2 + rad) := by
  obtain ⟨b1, b2⟩ := okHex_iff.1 hh
  unfold impl_stepBy
  show K (IntKind.wrap .i64 (h.1 + IntKind.wrap .i64 (rad * (-1))), IntKind.wrap .i64 (h.2 + IntKind.wrap .i64 (rad * 1))) = _
  rw [w64 (n := rad * (-1)) (by omega), w64 (n := rad * 1) (by omega), w64 (by omega), w64 (by omega), show h.1 + rad * (-1) = h.1 - rad by omega, show h.2 + rad * 1 = h.2 + rad by omega]
end
theorem ring0 (h at_ : Int × Int) : (ringV 0 ([h], at_)).1 = [h] := rfl
theorem RingOf_same (h : Int × Int) (rad : Int) : ∃ v b, v.length ≤ 1048576 ∧ (∀ {R : Type} (K : List (Int × Int) → Bool → Option R), spec_RingOf 4194304 h rad K = K v b) ∧ ∀ {R : Type} (K : List (Int × Int) → Bool → Option R), impl_RingOf 4194304 h rad K = K v b := by
  cases hh : okHex h
  · exact ⟨[], false, by simp, fun K => by unfold spec_RingOf; rw [hGood_eq, hh]; rfl, fun K => by unfold impl_RingOf; rw [IsHex_eq, hh]; rfl⟩
  cases hr : inB rad 0 6
  · exact ⟨[], false, by simp, fun K => by unfold spec_RingOf; rw [hGood_eq, hh, l1In_eq, hr]; rfl, fun K => by unfold impl_RingOf; rw [IsHex_eq, hh, inRange_eq, hr]; rfl⟩
  have hr' := inB_iff.1 hr
  obtain ⟨b1, b2⟩ := okHex_iff.1 hh
  have fin : ∀ (v : List (Int × Int)), v.length ≤ 37 → (∀ {R : Type} (K : List (Int × Int) → Option R), spec_hRing 4194304 h rad K = K v) → (∀ {R : Type} (K : List (Int × Int) → Bool → Option R), impl_RingOf 4194304 h rad K = impl_allHexes 4194304 v fun r3 => bif !r3 then K [] false else K v true) →
      ∃ v b, v.length ≤ 1048576 ∧ (∀ {R : Type} (K : List (Int × Int) → Bool → Option R), spec_RingOf 4194304 h rad K = K v b) ∧ ∀ {R : Type} (K : List (Int × Int) → Bool → Option R), impl_RingOf 4194304 h rad K = K v b := by
    intro v hv f1 f2
    cases ha : v.all okHex
    · exact ⟨[], false, by simp, fun K => by unfold spec_RingOf; rw [hGood_eq, hh, l1In_eq, hr, Bool.not_true, cond_false, cond_false, f1, hAll_eq _ (by omega) (by omega), ha]; rfl, fun K => by rw [f2, allHexes_eq _ (by omega) (by omega), ha]; rfl⟩
    · exact ⟨v, true, by omega, fun K => by unfold spec_RingOf; rw [hGood_eq, hh, l1In_eq, hr, Bool.not_true, cond_false, cond_false, f1, hAll_eq _ (by omega) (by omega), ha]; rfl, fun K => by rw [f2, allHexes_eq _ (by omega) (by omega), ha]; rfl⟩
  have h46 : nearN (h.1 - rad, h.2 + rad) (46 + 6 * ((0 : Nat) : Int)) := by
    unfold nearN
    refine ⟨⟨?_, ?_⟩, ?_, ?_⟩
    · show -(46 + 6 * ((0 : Nat) : Int)) ≤ h.1 - rad; omega
    · show h.1 - rad ≤ 46 + 6 * ((0 : Nat) : Int); omega
    · show -(46 + 6 * ((0 : Nat) : Int)) ≤ h.2 + rad; omega
    · show h.2 + rad ≤ 46 + 6 * ((0 : Nat) : Int); omega
  by_cases h0 : rad = 0
  · refine fin [h] (by simp) (fun {R} K => ?_) (fun {R} K => ?_)
    · unfold spec_hRing; rw [decide_eq_true h0]; rfl
    · unfold impl_RingOf
      rw [IsHex_eq, hh, inRange_eq, hr, Bool.not_true, cond_false, cond_false, iFirst_eq hr' h hh, decide_eq_true h0, cond_true]
      refine (iRing_eq hr' (by omega) (by omega) ([h], (h.1 - rad, h.2 + rad)) ⟨h46, by simp⟩ _).trans ?_
      subst h0
      rw [ring0]
  · refine fin (ringV rad ([], (h.1 - rad, h.2 + rad))).1 (ringV_len hr' ⟨h46, by simp⟩) (fun {R} K => ?_) (fun {R} K => ?_)
    · unfold spec_hRing
      rw [decide_eq_false h0, cond_false]
      refine (sFirst_eq hr' (by omega) h hh _).trans ?_
      exact sRing_eq hr' (by omega) (by omega) ([], (h.1 - rad, h.2 + rad)) ⟨h46, by simp⟩ _
    · unfold impl_RingOf
      rw [IsHex_eq, hh, inRange_eq, hr, Bool.not_true, cond_false, cond_false, iFirst_eq hr' h hh, decide_eq_false h0, cond_false]
      exact iRing_eq hr' (by omega) (by omega) ([], (h.1 - rad, h.2 + rad)) ⟨h46, by simp⟩ _
theorem law_FnExactRingOf (h : Int × Int) (w : Wf (.st (.pair (.int .i64) (.int .i64))) h) (rad : Int) (w2 : Wf (.int .i64) rad) (K : Bool → Option R) : laws_FnExactRingOf 4194304 h rad K = K true := by
  obtain ⟨v, b, hv, e1, e2⟩ := RingOf_same h rad
  unfold laws_FnExactRingOf
  rw [toHex_eq, e1, toHex_eq, e2, eqHexS_self _ (by omega) (by omega), markHexS_eq _ (by omega) (by omega), heldHexS_eq _ (by omega) (by omega), decide_eq_false (by omega), decide_eq_true rfl, toHex_eq, e2, eqHexS_self _ (by omega) (by omega), heldHexS_eq _ (by omega) (by omega), decide_eq_false (by omega), decide_eq_true rfl]
  simp
end
end Go.Lg
/- Lines: the law. -/
set_option linter.unusedSimpArgs false
set_option linter.unusedVariables false
namespace Go.Lg
open Go Go.Ev
section
variable {R α σ ι : Type}
/-! ### marks of rows of rows -/
def fS (f : Int → α → α) (c : α → Nat) : Int → List α → List α
  | _, [] => []
  | k, x :: l => f k x :: fS f c (k + c x) l
def cS (c : α → Nat) : List α → Nat
  | [] => 0
  | x :: l => c x + cS c l
theorem fS_len (f : Int → α → α) (c : α → Nat) : ∀ (k : Int) (l : List α), (fS f c k l).length = l.length
  | _, [] => rfl
  | k, x :: l => by simp [fS, fS_len f c (k + c x) l]
theorem loop_mark (f : Int → α → α) (c : α → Nat) (L : Nat → Int → Nat → List α → Option R) (fin : Int → List α → Option R) (P : α → Prop)
    (hs : ∀ m (k : Int) x (pre r : List α), P x → 0 ≤ k → k + c x ≤ 4000000000000000 → pre.length + (x :: r).length ≤ 137438953472 → L (m + 1) k pre.length (pre ++ x :: r) = L m (k + c x) (pre.length + 1) (pre ++ f k x :: r))
    (he : ∀ m k s, s.length ≤ 137438953472 → L (m + 1) k s.length s = fin k s) : ∀ (m : Nat) (pre r : List α) (k : Int), (∀ x ∈ r, P x) → 0 ≤ k → k + cS c r ≤ 4000000000000000 → pre.length + r.length ≤ 137438953472 → r.length < m → L m k pre.length (pre ++ r) = fin (k + cS c r) (pre ++ fS f c k r) := by
  intro m
  induction m with
  | zero => intro pre r k _ _ _ _ h; omega
  | succ m ih =>
    intro pre r k hP h0 hb hl hm
    cases r with
    | nil =>
      rw [List.append_nil, he m k pre (by simpa using hl)]
      simp [cS, fS]
    | cons x r =>
      simp only [cS] at hb ⊢
      simp only [List.length_cons] at hm hl
      rw [hs m k x pre r (hP x (by simp)) h0 (by omega) (by simpa using hl)]
      have := ih (pre ++ [f k x]) r (k + c x) (fun y hy => hP y (by simp [hy])) (by omega) (by omega) (by simp; omega) (by omega)
      simp only [List.length_append, List.length_cons, List.length_nil, List.append_assoc, List.cons_append, List.nil_append] at this
      rw [this]
      simp only [fS]
      congr 1
      omega
theorem loop_held (f : Int → α → α) (c : α → Nat) (l : List α) (L : Nat → Int → Nat → Option R) (fin : Int → Option R) (P : α → Prop) (hl : l.length ≤ 137438953472)
    (hs : ∀ m (k : Int) x (pre r : List α), P x → 0 ≤ k → k + c x ≤ 4000000000000000 → l = pre ++ f k x :: r → L (m + 1) k pre.length = L m (k + c x) (pre.length + 1))
    (he : ∀ m k, L (m + 1) k l.length = fin k) : ∀ (m : Nat) (pre r : List α) (k : Int), l = pre ++ fS f c k r → (∀ x ∈ r, P x) → 0 ≤ k → k + cS c r ≤ 4000000000000000 → r.length < m → L m k pre.length = fin (k + cS c r) := by
  intro m
  induction m with
  | zero => intro pre r k _ _ _ _ h; omega
  | succ m ih =>
    intro pre r k e hP h0 hb hm
    cases r with
    | nil =>
      have e2 : l.length = pre.length := by rw [e]; simp [fS]
      rw [← e2, he m k]
      simp [cS]
    | cons x r =>
      simp only [cS] at hb ⊢
      simp only [List.length_cons] at hm
      simp only [fS] at e
      rw [hs m k x pre (fS f c (k + c x) r) (hP x (by simp)) h0 (by omega) e]
      have := ih (pre ++ [f k x]) r (k + c x) (by simpa using e) (fun y hy => hP y (by simp [hy])) (by omega) (by omega) (by omega)
      simp only [List.length_append, List.length_cons, List.length_nil] at this
      rw [this]
      congr 1
      omega
def mHk (k0 : Int) (n : Nat) : List (Int × Int) := (List.range n).map fun (i : Nat) => (k0 + 2 * (i : Int), k0 + 1 + 2 * (i : Int))
theorem mHk_len (k0 : Int) (n : Nat) : (mHk k0 n).length = n := by simp [mHk]
theorem mHk_succ (k0 : Int) (n : Nat) : mHk k0 (n + 1) = mHk k0 n ++ [(k0 + 2 * (n : Int), k0 + 1 + 2 * (n : Int))] := by unfold mHk; rw [List.range_succ, List.map_append]; rfl
theorem markHexS_k {k : Nat} (a : List (Int × Int)) (k0 : Int) (hk : 0 ≤ k0 ∧ k0 + 2 * a.length ≤ 4000000000000000) (h : a.length < k) (hb : a.length ≤ 137438953472) (K : List (Int × Int) → Int → Option R) : laws_markHexS_in k a k0 K = K (mHk k0 a.length) (k0 + 2 * (a.length : Int)) := by
  unfold laws_markHexS_in
  have h0 : a = mHk k0 0 ++ a.drop 0 := by simp [mHk]
  conv => lhs; rw [h0]
  have e0 : k0 = k0 + 2 * ((0 : Nat) : Int) := by omega
  conv => lhs; arg 4; rw [e0]
  refine loop_det (fun m i s => laws_markHexS_in_l0 k (fun x y => K y x) m (k0 + 2 * (i : Int)) (i : Int) s) a.length (fun i => mHk k0 i ++ a.drop i) _ ?_ ?_ k 0 (Nat.zero_le _) (by omega)
  · intro m i hi
    show laws_markHexS_in_l0 k _ (m + 1) (k0 + 2 * (i : Int)) (i : Int) (mHk k0 i ++ a.drop i) = laws_markHexS_in_l0 k _ m (k0 + 2 * ((i + 1 : Nat) : Int)) ((i + 1 : Nat) : Int) (mHk k0 (i + 1) ++ a.drop (i + 1))
    have hl : (mHk k0 i ++ a.drop i).length = a.length := by rw [List.length_append, mHk_len, List.length_drop]; omega
    rw [laws_markHexS_in_l0, hl, dlt, d0, decide_eq_true hi, toNatC, wsucc (by omega), List.drop_eq_getElem_cons hi, set_at (mHk_len k0 i), getD_at (mHk_len k0 i), getD_at (mHk_len k0 i), set_at (mHk_len k0 i)]
    have hl2 : (mHk k0 i ++ (k0 + 2 * (i : Int), a[i].2) :: a.drop (i + 1)).length = a.length := by rw [List.length_append, mHk_len, List.length_cons, List.length_drop]; omega
    rw [hl2, dlt, decide_eq_true hi, w64 (n := k0 + 2 * (i : Int) + 1) (by omega), w64 (by omega), mHk_succ, List.append_assoc, show k0 + 2 * (i : Int) + 1 + 1 = k0 + 2 * ((i + 1 : Nat) : Int) by omega, show k0 + 2 * (i : Int) + 1 = k0 + 1 + 2 * (i : Int) by omega]
    rfl
  · intro m
    have hl : (mHk k0 a.length ++ a.drop a.length) = mHk k0 a.length := by rw [List.drop_length, List.append_nil]
    show laws_markHexS_in_l0 k _ (m + 1) (k0 + 2 * (a.length : Int)) (a.length : Int) (mHk k0 a.length ++ a.drop a.length) = _
    rw [hl, laws_markHexS_in_l0, mHk_len, dlt, decide_eq_false (by omega)]; rfl
theorem heldHexS_k {k : Nat} (k0 : Int) (n : Nat) (hk : 0 ≤ k0 ∧ k0 + 2 * n ≤ 4000000000000000) (h : n < k) (hb : n ≤ 137438953472) (K : Int → Option R) : laws_heldHexS k (mHk k0 n) k0 K = K (k0 + 2 * (n : Int)) := by
  unfold laws_heldHexS
  have e0 : k0 = k0 + 2 * ((0 : Nat) : Int) := by omega
  conv => lhs; arg 6; rw [e0]
  refine loop_det (fun m i s => laws_heldHexS_l0 k (fun x => K x) (fun x => K x) m (mHk k0 n) s (i : Int)) n (fun i => k0 + 2 * (i : Int)) _ ?_ ?_ k 0 (Nat.zero_le _) (by omega)
  · intro m i hi
    show laws_heldHexS_l0 k _ _ (m + 1) (mHk k0 n) (k0 + 2 * (i : Int)) (i : Int) = laws_heldHexS_l0 k _ _ m (mHk k0 n) (k0 + 2 * ((i + 1 : Nat) : Int)) ((i + 1 : Nat) : Int)
    have e : (mHk k0 n).getD i (0, 0) = (k0 + 2 * (i : Int), k0 + 1 + 2 * (i : Int)) := by
      rw [getD_lt (by rw [mHk_len]; exact hi)]; simp [mHk]
    rw [laws_heldHexS_l0, mHk_len, dlt, d0, decide_eq_true hi, toNatC, wsucc (by omega), e, decide_eq_true rfl, w64 (n := k0 + 2 * (i : Int) + 1) (by omega), w64 (by omega), decide_eq_true (by show k0 + 1 + 2 * (i : Int) = k0 + 2 * (i : Int) + 1; omega), show k0 + 2 * (i : Int) + 1 + 1 = k0 + 2 * ((i + 1 : Nat) : Int) by omega]
    rfl
  · intro m
    show laws_heldHexS_l0 k _ _ (m + 1) (mHk k0 n) (k0 + 2 * (n : Int)) (n : Int) = _
    rw [laws_heldHexS_l0, mHk_len, dlt, decide_eq_false (by omega)]; rfl
def fH (k : Int) (a : List (Int × Int)) : List (Int × Int) := mHk k a.length
def cH (a : List (Int × Int)) : Nat := 2 * a.length
theorem markHexSS_eq {k : Nat} (a : List (List (Int × Int))) (hc : cS cH a ≤ 1000000) (hl : a.length < k) (hb : a.length ≤ 137438953472) (hx : ∀ x ∈ a, x.length < k ∧ x.length ≤ 137438953472) (K : List (List (Int × Int)) → Int → Option R) : laws_markHexSS_in k a 1 K = K (fS fH cH 1 a) (1 + (cS cH a : Int)) := by
  unfold laws_markHexSS_in
  refine loop_mark fH cH (fun m k1 i s => laws_markHexSS_in_l0 k (fun k_1 b => K b k_1) m k1 (i : Int) s) (fun k1 s => K s k1) (fun x => x.length < k ∧ x.length ≤ 137438953472) ?_ ?_ k [] a 1 hx (by omega) (by omega) (by simpa using hb) hl
  · intro m k1 x pre r hx h0 h1 hl
    have hlen : (pre ++ x :: r).length = pre.length + (x :: r).length := List.length_append
    have hpos : pre.length < pre.length + (x :: r).length := by simp
    unfold cH at h1
    show laws_markHexSS_in_l0 k _ (m + 1) k1 (pre.length : Int) (pre ++ x :: r) = laws_markHexSS_in_l0 k _ m (k1 + (cH x : Nat)) ((pre.length + 1 : Nat) : Int) (pre ++ fH k1 x :: r)
    rw [laws_markHexSS_in_l0, hlen, dlt, d0, decide_eq_true hpos, toNatC, wsucc (by omega), getD_at rfl, markHexS_k x k1 ⟨h0, by push_cast at h1; omega⟩ hx.1 hx.2, set_at rfl]
    unfold cH fH
    push_cast
    rfl
  · intro m k1 s hs
    show laws_markHexSS_in_l0 k _ (m + 1) k1 (s.length : Int) s = _
    rw [laws_markHexSS_in_l0, dlt, decide_eq_false (by omega)]; rfl
theorem heldHexSS_eq {k : Nat} (a : List (List (Int × Int))) (hc : cS cH a ≤ 1000000) (hl : a.length < k) (hb : a.length ≤ 137438953472) (hx : ∀ x ∈ a, x.length < k ∧ x.length ≤ 137438953472) (K : Int → Option R) : laws_heldHexSS k (fS fH cH 1 a) 1 K = K (1 + (cS cH a : Int)) := by
  unfold laws_heldHexSS
  have hlf := fS_len fH cH 1 a
  refine loop_held fH cH (fS fH cH 1 a) (fun m k1 i => laws_heldHexSS_l0 k (fun x => K x) (fun x => K x) m (fS fH cH 1 a) k1 (i : Int)) (fun k1 => K k1) (fun x => x.length < k ∧ x.length ≤ 137438953472) (by omega) ?_ ?_ k [] a 1 rfl hx (by omega) (by omega) hl
  · intro m k1 x pre r hx h0 h1 e
    have hlen : (fS fH cH 1 a).length = pre.length + (fH k1 x :: r).length := by rw [e]; exact List.length_append
    have hpos : pre.length < pre.length + (fH k1 x :: r).length := by simp
    show laws_heldHexSS_l0 k _ _ (m + 1) (fS fH cH 1 a) k1 (pre.length : Int) = laws_heldHexSS_l0 k _ _ m (fS fH cH 1 a) (k1 + (cH x : Nat)) ((pre.length + 1 : Nat) : Int)
    rw [laws_heldHexSS_l0, hlen, dlt, d0, decide_eq_true hpos, toNatC, wsucc (by omega)]
    have eg : (fS fH cH 1 a).getD pre.length [] = fH k1 x := by rw [e]; exact getD_at rfl
    unfold cH at h1
    push_cast at h1
    rw [eg]
    unfold fH
    rw [heldHexS_k k1 x.length ⟨h0, by omega⟩ hx.1 hx.2, decide_eq_false (by omega)]
    unfold cH
    push_cast
    rfl
  · intro m k1
    show laws_heldHexSS_l0 k _ _ (m + 1) (fS fH cH 1 a) k1 ((fS fH cH 1 a).length : Int) = _
    rw [laws_heldHexSS_l0, dlt, decide_eq_false (by omega)]; rfl
theorem eqHexSS_self {k : Nat} (a : List (List (Int × Int))) (h : a.length < k) (hb : a.length ≤ 137438953472) (hx : ∀ x ∈ a, x.length < k ∧ x.length ≤ 137438953472) (K : Bool → Option R) : laws_eqHexSS k a a K = K true := by
  unfold laws_eqHexSS
  rw [decide_eq_true rfl]
  show laws_eqHexSS_l0 k (K true) (fun x => K x) k a a (0 : Int) = K true
  have := loop_all0 (fun m i => laws_eqHexSS_l0 k (K true) (fun x => K x) m a a (i : Int)) a (fun _ => true) (K true) (K true) ?_ ?_ (m := k) h
  · rw [show ((0 : Int)) = ((0 : Nat) : Int) from rfl]
    rw [this]
    cases a.all fun _ => true <;> rfl
  · intro m i hi
    have h1 := hx a[i] (List.getElem_mem hi)
    show laws_eqHexSS_l0 k _ _ (m + 1) a a (i : Int) = bif true then laws_eqHexSS_l0 k _ _ m a a ((i + 1 : Nat) : Int) else _
    rw [laws_eqHexSS_l0, dlt, d0, decide_eq_true hi, toNatC, getD_lt hi, wsucc (by omega), eqHexS_self _ h1.1 h1.2]; rfl
  · intro m
    show laws_eqHexSS_l0 k _ _ (m + 1) a a (a.length : Int) = _
    rw [laws_eqHexSS_l0, dlt, decide_eq_false (by omega)]; rfl
end
end Go.Lg
/- Rules: what the functions answer; their laws. -/
set_option linter.unusedSimpArgs false
set_option linter.unusedVariables false
namespace Go.Lg
open Go Go.Ev
section
variable {R α : Type}
abbrev TerT := ByteArray × (List Int) × Int × Int × Bool
abbrev KndT := ByteArray × Int × Int × Int × Bool × Int
abbrev RulT := (List TerT) × (List KndT) × Int × Int × Int × Int × Int
abbrev TerTy : Ty := .st (.pair .str (.pair (.sl (.int .i64)) (.pair (.int .i64) (.pair (.int .i64) .bool))))
abbrev KndTy : Ty := .st (.pair .str (.pair (.int .i64) (.pair (.int .i64) (.pair (.int .i64) (.pair .bool (.int .i64))))))
abbrev RulTy : Ty := .st (.pair (.sl TerTy) (.pair (.sl KndTy) (.pair (.int .i64) (.pair (.int .i64) (.pair (.int .i64) (.pair (.int .i64) (.int .i64)))))))
theorem wfStr {s : ByteArray} (w : Wf .str s) : s.size ≤ 9223372036854775807 := by
  have : maxLen = 9223372036854775807 := by decide
  have h : s.size ≤ maxLen := w
  omega
def wideR (r : RulT) : Prop := r.1.length ≤ 9223372036854775807 ∧ r.2.1.length ≤ 9223372036854775807 ∧ (∀ t ∈ r.1, t.1.size ≤ 9223372036854775807 ∧ t.2.1.length ≤ 9223372036854775807) ∧ ∀ t ∈ r.2.1, t.1.size ≤ 9223372036854775807
theorem wfRul {r : RulT} (w : Wf RulTy r) : wideR r := by
  obtain ⟨w1, w2, _⟩ := w
  refine ⟨(wfSl w1).1, (wfSl w2).1, fun t ht => ?_, fun t ht => ?_⟩
  · obtain ⟨g1, g2, _⟩ := (wfSl w1).2 t ht
    exact ⟨wfStr g1, (wfSl g2).1⟩
  · obtain ⟨g1, _⟩ := (wfSl w2).2 t ht
    exact wfStr g1
def smallR (r : RulT) : Prop := r.1.length ≤ 1048576 ∧ r.2.1.length ≤ 1048576 ∧ (∀ t ∈ r.1, t.1.size ≤ 1048576 ∧ t.2.1.length ≤ 1048576) ∧ ∀ t ∈ r.2.1, t.1.size ≤ 1048576
/-! ### sizes -/
def szTe (t : TerT) (left : Int) : Int := if szI t.1.size left < 0 then -1 else szI t.2.1.length (szI t.1.size left)
theorem szTe_b (t : TerT) (left : Int) (hl : inL left) : szTe t left ≤ left ∧ -1 ≤ szTe t left := by
  unfold szTe
  have h1 := szI_b t.1.size left hl
  have h0 := hl.1
  have h2 := hl.2
  split
  · omega
  · have := szI_b t.2.1.length (szI t.1.size left) ⟨by omega, by omega⟩
    omega
theorem szTe_ok (t : TerT) (left : Int) (hl : inL left) : szTe t left = -1 ∨ (0 ≤ szTe t left ∧ szTe t left ≤ left ∧ t.1.size ≤ 1048576 ∧ t.2.1.length ≤ 1048576) := by
  unfold szTe
  have h0 := hl.2
  rcases szI_cases t.1.size left hl.1 with h1 | ⟨h1, h2, h3⟩
  · left; rw [if_pos (by omega)]
  · rw [if_neg (by omega)]
    rcases szI_cases t.2.1.length (szI t.1.size left) h1 with g1 | ⟨g1, g2, g3⟩
    · exact .inl g1
    · exact .inr ⟨g1, by omega, by omega, by omega⟩
theorem szTerrain_eq (t : TerT) (left : Int) (hl : inL left) (w1 : t.1.size ≤ 9223372036854775807) (w2 : t.2.1.length ≤ 9223372036854775807) (K : Int → Option R) : laws_szTerrain t left K = K (szTe t left) := by
  have hl' := hl
  unfold inL at hl'
  unfold laws_szTerrain szTe szI
  rw [w64 (by omega)]
  by_cases h : (t.1.size : Int) ≤ left
  · rw [decide_eq_false (by omega), if_pos h, if_neg (by omega), cond_false, szIntS_eq _ _ ⟨by omega, by omega⟩ w2]
    unfold szI
    by_cases h2 : (t.2.1.length : Int) ≤ left - t.1.size
    · rw [if_pos h2, decide_eq_false (by omega)]; rfl
    · rw [if_neg h2]; rfl
  · rw [decide_eq_true (by omega), if_neg h]; rfl
theorem szTerrainS_eq {k : Nat} (hk : 1048576 < k) (a : List TerT) (left : Int) (hl : inL left) (ha : a.length ≤ 9223372036854775807) (hb : ∀ t ∈ a, t.1.size ≤ 9223372036854775807 ∧ t.2.1.length ≤ 9223372036854775807) (K : Int → Option R) : laws_szTerrainS k a left K = K (szS szTe a left) := by
  refine szS_eq hk szTe a ha (fun K => laws_szTerrainS k a left K) (fun m a left i => laws_szTerrainS_l0 k (fun x => K x) (fun x => K x) m a left i) K left hl rfl ?_ ?_ (fun y _ left hl => szTe_b _ _ hl)
  · intro m i left h hs hl
    show laws_szTerrainS_l0 k _ _ (m + 1) a left (i : Int) = bif decide (szTe a[i] left < 0) then K (-1) else laws_szTerrainS_l0 k _ _ m a (szTe a[i] left) ((i + 1 : Nat) : Int)
    have := hb _ (List.getElem_mem h)
    rw [laws_szTerrainS_l0, dlt, d0, decide_eq_true h, toNatC, getD_lt h, wsucc (by omega), szTerrain_eq _ _ hl this.1 this.2]
    rfl
  · intro m left
    show laws_szTerrainS_l0 k _ _ (m + 1) a left (a.length : Int) = K left
    rw [laws_szTerrainS_l0, dlt, decide_eq_false (by omega)]; rfl
def szKn (t : KndT) (left : Int) : Int := szI t.1.size left
theorem szKindS_eq {k : Nat} (hk : 1048576 < k) (a : List KndT) (left : Int) (hl : inL left) (ha : a.length ≤ 9223372036854775807) (hb : ∀ t ∈ a, t.1.size ≤ 9223372036854775807) (K : Int → Option R) : laws_szKindS k a left K = K (szS szKn a left) := by
  refine szS_eq hk szKn a ha (fun K => laws_szKindS k a left K) (fun m a left i => laws_szKindS_l0 k (fun x => K x) (fun x => K x) m a left i) K left hl rfl ?_ ?_ (fun y _ left hl => szI_b _ _ hl)
  · intro m i left h hs hl
    show laws_szKindS_l0 k _ _ (m + 1) a left (i : Int) = bif decide (szKn a[i] left < 0) then K (-1) else laws_szKindS_l0 k _ _ m a (szKn a[i] left) ((i + 1 : Nat) : Int)
    have := hb _ (List.getElem_mem h)
    have h0 := hl.1
    have h1 := hl.2
    rw [laws_szKindS_l0, dlt, d0, decide_eq_true h, toNatC, getD_lt h, wsucc (by omega)]
    unfold laws_szKind szKn szI
    rw [w64 (by omega)]
    by_cases hz : (a[i].1.size : Int) ≤ left
    · rw [decide_eq_false (by omega), if_pos hz]; rfl
    · rw [decide_eq_true (by omega), if_neg hz]; rfl
  · intro m left
    show laws_szKindS_l0 k _ _ (m + 1) a left (a.length : Int) = K left
    rw [laws_szKindS_l0, dlt, decide_eq_false (by omega)]; rfl
def szR (r : RulT) (left : Int) : Int := if szS szTe r.1 left < 0 then -1 else szS szKn r.2.1 (szS szTe r.1 left)
theorem szR_eq {k : Nat} (hk : 1048576 < k) {r : RulT} (w : wideR r) (left : Int) (hl : inL left) (K : Int → Option R) : laws_szRules k r left K = K (szR r left) := by
  obtain ⟨w1, w2, w3, w4⟩ := w
  unfold laws_szRules szR
  rw [szTerrainS_eq hk _ _ hl w1 w3]
  have h0 := hl.2
  have hb1 := szS_b szTe r.1 (fun y _ left hl => szTe_b _ _ hl) left hl
  by_cases h : szS szTe r.1 left < 0
  · rw [decide_eq_true h, if_pos h]; rfl
  · have hl2 : inL (szS szTe r.1 left) := ⟨by omega, by omega⟩
    have hb2 := szS_b szKn r.2.1 (fun y _ left hl => szI_b _ _ hl) _ hl2
    rw [decide_eq_false h, if_neg h, cond_false, szKindS_eq hk _ _ hl2 w2 w4]
    by_cases hn : szS szKn r.2.1 (szS szTe r.1 left) < 0
    · rw [decide_eq_true hn, show szS szKn r.2.1 (szS szTe r.1 left) = -1 by omega]; rfl
    · rw [decide_eq_false hn]; rfl
theorem szR_ok (r : RulT) (left : Int) (hl : inL left) : szR r left = -1 ∨ (0 ≤ szR r left ∧ szR r left ≤ left ∧ smallR r) := by
  unfold szR
  have h0 := hl.2
  rcases szS_ok szTe _ r.1 (fun y _ left hl => szTe_ok y left hl) left hl with h1 | ⟨h1, h2, h3, h4⟩
  · left; rw [if_pos (by omega)]
  · rw [if_neg (by omega)]
    rcases szS_ok szKn (fun t => t.1.size ≤ 1048576) r.2.1 (fun y _ left hl => by
      rcases szI_cases y.1.size left hl.1 with g | ⟨g1, g2, g3⟩
      · exact .inl g
      · exact .inr ⟨g1, g2, by have := hl.2; omega⟩) (szS szTe r.1 left) ⟨h1, by omega⟩ with g1 | ⟨g1, g2, g3, g4⟩
    · exact .inl g1
    · exact .inr ⟨g1, by omega, h3, g3, h4, g4⟩
/-! ### copies, equality -/
theorem toTerrainS_eq {k : Nat} (a : List TerT) (h : a.length < k) (hb : a.length ≤ 137438953472) (hr : ∀ t ∈ a, t.2.1.length < k ∧ t.2.1.length ≤ 137438953472) (K : List TerT → Option R) : laws_toTerrainS k a K = K a := by
  refine toS_eq a ((⟨#[]⟩ : ByteArray), ([], ((0 : Int), ((0 : Int), false)))) h hb (fun K => laws_toTerrainS k a K) (fun m a i out => laws_toTerrainS_l0 k (fun x => K x) m a i out) K rfl ?_ ?_
  · intro m i out hi ho
    show laws_toTerrainS_l0 k _ (m + 1) a (i : Int) out = laws_toTerrainS_l0 k _ m a ((i + 1 : Nat) : Int) _
    have := hr _ (List.getElem_mem hi)
    rw [laws_toTerrainS_l0, dlt, d0, dlt, decide_eq_true hi, decide_eq_true (by omega : i < out.length), toNatC, getD_lt hi, wsucc (by omega)]
    unfold laws_toTerrain
    rw [toIntS_eq _ this.1 this.2]
    rfl
  · intro m out
    show laws_toTerrainS_l0 k _ (m + 1) a (a.length : Int) out = K out
    rw [laws_toTerrainS_l0, dlt, decide_eq_false (by omega)]; rfl
theorem toKindS_eq {k : Nat} (a : List KndT) (h : a.length < k) (hb : a.length ≤ 137438953472) (K : List KndT → Option R) : laws_toKindS k a K = K a := by
  refine toS_eq a ((⟨#[]⟩ : ByteArray), ((0 : Int), ((0 : Int), ((0 : Int), (false, (0 : Int)))))) h hb (fun K => laws_toKindS k a K) (fun m a i out => laws_toKindS_l0 k (fun x => K x) m a i out) K rfl ?_ ?_
  · intro m i out hi ho
    show laws_toKindS_l0 k _ (m + 1) a (i : Int) out = laws_toKindS_l0 k _ m a ((i + 1 : Nat) : Int) _
    rw [laws_toKindS_l0, dlt, d0, dlt, decide_eq_true hi, decide_eq_true (by omega : i < out.length), toNatC, getD_lt hi, wsucc (by omega)]
    rfl
  · intro m out
    show laws_toKindS_l0 k _ (m + 1) a (a.length : Int) out = K out
    rw [laws_toKindS_l0, dlt, decide_eq_false (by omega)]; rfl
theorem toRul_eq {r : RulT} (hs : smallR r) (K : RulT → Option R) : laws_toRules 4194304 r K = K r := by
  obtain ⟨s1, s2, s3, s4⟩ := hs
  unfold laws_toRules
  rw [toTerrainS_eq _ (by omega) (by omega) (fun t ht => by have := s3 t ht; omega), toKindS_eq _ (by omega) (by omega)]
theorem eqTerrain_self {k : Nat} (t : TerT) (h : t.2.1.length < k) (hb : t.2.1.length ≤ 137438953472) (K : Bool → Option R) : laws_eqTerrain k t t K = K true := by
  unfold laws_eqTerrain
  rw [beq_self_eq_true, eqIntS_self _ h hb, decide_eq_true rfl, decide_eq_true rfl, beq_self_eq_true]; rfl
theorem eqTerrainS_self {k : Nat} (a : List TerT) (h : a.length < k) (hb : a.length ≤ 137438953472) (hr : ∀ t ∈ a, t.2.1.length < k ∧ t.2.1.length ≤ 137438953472) (K : Bool → Option R) : laws_eqTerrainS k a a K = K true := by
  refine eqS_self a h (fun K => laws_eqTerrainS k a a K) (fun m a b i => laws_eqTerrainS_l0 k (K true) (fun x => K x) m a b i) K rfl ?_ ?_
  · intro m i hi
    show laws_eqTerrainS_l0 k _ _ (m + 1) a a (i : Int) = laws_eqTerrainS_l0 k _ _ m a a ((i + 1 : Nat) : Int)
    have := hr _ (List.getElem_mem hi)
    rw [laws_eqTerrainS_l0, dlt, d0, decide_eq_true hi, wsucc (by omega), toNatC, getD_lt hi, eqTerrain_self _ this.1 this.2]
    rfl
  · intro m
    show laws_eqTerrainS_l0 k _ _ (m + 1) a a (a.length : Int) = K true
    rw [laws_eqTerrainS_l0, dlt, decide_eq_false (by omega)]; rfl
theorem eqKind_self (t : KndT) (K : Bool → Option R) : laws_eqKind t t K = K true := by
  unfold laws_eqKind
  rw [beq_self_eq_true, decide_eq_true rfl, decide_eq_true rfl, decide_eq_true rfl, beq_self_eq_true, decide_eq_true rfl]; rfl
theorem eqKindS_self {k : Nat} (a : List KndT) (h : a.length < k) (hb : a.length ≤ 137438953472) (K : Bool → Option R) : laws_eqKindS k a a K = K true := by
  refine eqS_self a h (fun K => laws_eqKindS k a a K) (fun m a b i => laws_eqKindS_l0 k (K true) (fun x => K x) m a b i) K rfl ?_ ?_
  · intro m i hi
    show laws_eqKindS_l0 k _ _ (m + 1) a a (i : Int) = laws_eqKindS_l0 k _ _ m a a ((i + 1 : Nat) : Int)
    rw [laws_eqKindS_l0, dlt, d0, decide_eq_true hi, wsucc (by omega), toNatC, getD_lt hi, eqKind_self]
    rfl
  · intro m
    show laws_eqKindS_l0 k _ _ (m + 1) a a (a.length : Int) = K true
    rw [laws_eqKindS_l0, dlt, decide_eq_false (by omega)]; rfl
theorem eqRul_self {r : RulT} (hs : smallR r) (K : Bool → Option R) : laws_eqRules 4194304 r r K = K true := by
  obtain ⟨s1, s2, s3, s4⟩ := hs
  unfold laws_eqRules
  rw [eqTerrainS_self _ (by omega) (by omega) (fun t ht => by have := s3 t ht; omega), eqKindS_self _ (by omega) (by omega), decide_eq_true rfl, decide_eq_true rfl, decide_eq_true rfl, decide_eq_true rfl, decide_eq_true rfl]
  rfl
/-! ### names -/
def letB (s : ByteArray) (i : Nat) : Bool := !decide (byteAt s (i : Int) < 97) && !decide (122 < byteAt s (i : Int))
def nameB (s : ByteArray) : Bool := (List.range s.size).all (letB s) && inB (s.size : Int) 1 8
theorem rName_eq {k : Nat} (s : ByteArray) (h : s.size < k) (hb : s.size ≤ 137438953472) (K : Bool → Option R) : spec_rName k s K = K (nameB s) := by
  unfold spec_rName nameB
  have := loop_allN (fun m i => spec_rName_l0 k (fun s1 => spec_l1In ((s1.size : Nat) : Int) 1 8 fun r => K r) (fun x => K x) m s (i : Int)) s.size (letB s) (spec_l1In ((s.size : Nat) : Int) 1 8 fun r => K r) (K false) ?_ ?_ h
  · refine this.trans ?_
    rw [l1In_eq]
    cases (List.range s.size).all (letB s) <;> rfl
  · intro m i hi
    show spec_rName_l0 k _ _ (m + 1) s (i : Int) = bif _ then spec_rName_l0 k _ _ m s ((i + 1 : Nat) : Int) else _
    rw [spec_rName_l0, dlt, d0, decide_eq_true hi, wsucc (by omega)]
    unfold letB
    cases decide (byteAt s (i : Int) < 97)
    · cases decide (122 < byteAt s (i : Int)) <;> rfl
    · rfl
  · intro m
    show spec_rName_l0 k _ _ (m + 1) s (s.size : Int) = _
    rw [spec_rName_l0, dlt, decide_eq_false (by omega)]; rfl
theorem isName_eq {k : Nat} (s : ByteArray) (h : s.size < k) (hb : s.size ≤ 137438953472) (K : Bool → Option R) : impl_isName k s K = K (nameB s) := by
  unfold impl_isName nameB
  have := loop_allN (fun m i => impl_isName_l0 k (fun s1 => impl_inRange ((s1.size : Nat) : Int) 1 8 fun r => K r) (fun x => K x) m s (i : Int)) s.size (letB s) (impl_inRange ((s.size : Nat) : Int) 1 8 fun r => K r) (K false) ?_ ?_ h
  · refine this.trans ?_
    rw [inRange_eq]
    cases (List.range s.size).all (letB s) <;> rfl
  · intro m i hi
    show impl_isName_l0 k _ _ (m + 1) s (i : Int) = bif _ then impl_isName_l0 k _ _ m s ((i + 1 : Nat) : Int) else _
    rw [impl_isName_l0, dlt, d0, decide_eq_true hi, wsucc (by omega)]
    unfold letB
    cases decide (byteAt s (i : Int) < 97)
    · cases decide (122 < byteAt s (i : Int)) <;> rfl
    · rfl
  · intro m
    show impl_isName_l0 k _ _ (m + 1) s (s.size : Int) = _
    rw [impl_isName_l0, dlt, decide_eq_false (by omega)]; rfl
def isT (name : ByteArray) (t : TerT) : Bool := t.1.toList == name.toList
def isK (name : ByteArray) (t : KndT) : Bool := t.1.toList == name.toList
theorem rTerrain_eq {k : Nat} (l : List TerT) (name : ByteArray) (h : l.length < k) (hb : l.length ≤ 137438953472) (K : Int → Option R) : spec_rTerrain k l name K = K (findI (isT name) l) := by
  unfold spec_rTerrain
  refine loop_find (fun m i => spec_rTerrain_l0 k (K (-1)) (fun x => K x) m name l (l.length : Int) (i : Int)) l (isT name) K ?_ ?_ h
  · intro m i hi
    show spec_rTerrain_l0 k _ _ (m + 1) name l (l.length : Int) (i : Int) = bif _ then _ else spec_rTerrain_l0 k _ _ m name l (l.length : Int) ((i + 1 : Nat) : Int)
    rw [spec_rTerrain_l0, dlt, d0, decide_eq_true hi, wsucc (by omega), toNatC, getD_lt hi]
    rfl
  · intro m
    show spec_rTerrain_l0 k _ _ (m + 1) name l (l.length : Int) (l.length : Int) = _
    rw [spec_rTerrain_l0, dlt, decide_eq_false (by omega)]; rfl
theorem rKind_eq {k : Nat} (l : List KndT) (name : ByteArray) (h : l.length < k) (hb : l.length ≤ 137438953472) (K : Int → Option R) : spec_rKind k l name K = K (findI (isK name) l) := by
  unfold spec_rKind
  refine loop_find (fun m i => spec_rKind_l0 k (K (-1)) (fun x => K x) m name l (l.length : Int) (i : Int)) l (isK name) K ?_ ?_ h
  · intro m i hi
    show spec_rKind_l0 k _ _ (m + 1) name l (l.length : Int) (i : Int) = bif _ then _ else spec_rKind_l0 k _ _ m name l (l.length : Int) ((i + 1 : Nat) : Int)
    rw [spec_rKind_l0, dlt, d0, decide_eq_true hi, wsucc (by omega), toNatC, getD_lt hi]
    rfl
  · intro m
    show spec_rKind_l0 k _ _ (m + 1) name l (l.length : Int) (l.length : Int) = _
    rw [spec_rKind_l0, dlt, decide_eq_false (by omega)]; rfl
theorem terrainIndex_eq {k : Nat} (l : List TerT) (name : ByteArray) (h : l.length < k) (hb : l.length ≤ 137438953472) (K : Int → Option R) : impl_terrainIndex k l name K = K (findI (isT name) l) := by
  unfold impl_terrainIndex slices_IndexFunc_Simpl_Terrain_impl_Terrain__impl_terrainIndex_1
  refine loop_find (fun m i => slices_IndexFunc_Simpl_Terrain_impl_Terrain__impl_terrainIndex_1_l0 k (K (-1)) (fun x => K x) m l name (l.length : Int) (i : Int)) l (isT name) K ?_ ?_ h
  · intro m i hi
    show slices_IndexFunc_Simpl_Terrain_impl_Terrain__impl_terrainIndex_1_l0 k _ _ (m + 1) l name (l.length : Int) (i : Int) = bif _ then _ else slices_IndexFunc_Simpl_Terrain_impl_Terrain__impl_terrainIndex_1_l0 k _ _ m l name (l.length : Int) ((i + 1 : Nat) : Int)
    rw [slices_IndexFunc_Simpl_Terrain_impl_Terrain__impl_terrainIndex_1_l0, dlt, d0, decide_eq_true hi, wsucc (by omega), toNatC, getD_lt hi]
    rfl
  · intro m
    show slices_IndexFunc_Simpl_Terrain_impl_Terrain__impl_terrainIndex_1_l0 k _ _ (m + 1) l name (l.length : Int) (l.length : Int) = _
    rw [slices_IndexFunc_Simpl_Terrain_impl_Terrain__impl_terrainIndex_1_l0, dlt, decide_eq_false (by omega)]; rfl
theorem kindIndex_eq {k : Nat} (l : List KndT) (name : ByteArray) (h : l.length < k) (hb : l.length ≤ 137438953472) (K : Int → Option R) : impl_kindIndex k l name K = K (findI (isK name) l) := by
  unfold impl_kindIndex slices_IndexFunc_Simpl_Kind_impl_Kind__impl_kindIndex_1
  refine loop_find (fun m i => slices_IndexFunc_Simpl_Kind_impl_Kind__impl_kindIndex_1_l0 k (K (-1)) (fun x => K x) m l name (l.length : Int) (i : Int)) l (isK name) K ?_ ?_ h
  · intro m i hi
    show slices_IndexFunc_Simpl_Kind_impl_Kind__impl_kindIndex_1_l0 k _ _ (m + 1) l name (l.length : Int) (i : Int) = bif _ then _ else slices_IndexFunc_Simpl_Kind_impl_Kind__impl_kindIndex_1_l0 k _ _ m l name (l.length : Int) ((i + 1 : Nat) : Int)
    rw [slices_IndexFunc_Simpl_Kind_impl_Kind__impl_kindIndex_1_l0, dlt, d0, decide_eq_true hi, wsucc (by omega), toNatC, getD_lt hi]
    rfl
  · intro m
    show slices_IndexFunc_Simpl_Kind_impl_Kind__impl_kindIndex_1_l0 k _ _ (m + 1) l name (l.length : Int) (l.length : Int) = _
    rw [slices_IndexFunc_Simpl_Kind_impl_Kind__impl_kindIndex_1_l0, dlt, decide_eq_false (by omega)]; rfl
theorem notCost_eq {k : Nat} (l : List Int) (h : l.length < k) (hb : l.length ≤ 137438953472) (K : Bool → Option R) : slices_ContainsFunc_Sint_int__impl_goodTerrain_1 k l K = K (!l.all fun x => inB x 0 9) := by
  unfold slices_ContainsFunc_Sint_int__impl_goodTerrain_1 slices_IndexFunc_Sint_int__impl_goodTerrain_1
  have := loop_find (fun m i => slices_IndexFunc_Sint_int__impl_goodTerrain_1_l0 k (K (decide ((0 : Int) ≤ -1))) (fun x => K (decide (0 ≤ x))) m l (l.length : Int) (i : Int)) l (fun x => !inB x 0 9) (fun x => K (decide (0 ≤ x))) ?_ ?_ (m := k) h
  · refine this.trans ?_
    show K (decide (0 ≤ findI (fun x => !inB x 0 9) l)) = _
    rw [findI_ge]
    congr 1
    rw [List.all_eq_not_any_not]; simp
  · intro m i hi
    show slices_IndexFunc_Sint_int__impl_goodTerrain_1_l0 k _ _ (m + 1) l (l.length : Int) (i : Int) = bif _ then _ else slices_IndexFunc_Sint_int__impl_goodTerrain_1_l0 k _ _ m l (l.length : Int) ((i + 1 : Nat) : Int)
    rw [slices_IndexFunc_Sint_int__impl_goodTerrain_1_l0, dlt, d0, decide_eq_true hi, toNatC, wsucc (by omega), getD_lt hi]
    unfold impl_goodTerrain_1
    rw [inRange_eq]
    rfl
  · intro m
    show slices_IndexFunc_Sint_int__impl_goodTerrain_1_l0 k _ _ (m + 1) l (l.length : Int) (l.length : Int) = _
    rw [slices_IndexFunc_Sint_int__impl_goodTerrain_1_l0, dlt, decide_eq_false (by omega)]; rfl
/-! ### good rules -/
def terB (r : RulT) (i : Nat) (t : TerT) : Bool := nameB t.1 && (decide (findI (isT t.1) r.1 = (i : Int)) && (decide (t.2.1.length = r.2.1.length) && ((t.2.1.all fun x => inB x 0 9) && (inB t.2.2.1 (-3) 3 && inB t.2.2.2.1 0 3))))
def kndB (r : RulT) (i : Nat) (t : KndT) : Bool := nameB t.1 && (decide (findI (isK t.1) r.2.1 = (i : Int)) && (inB t.2.1 1 9 && (inB t.2.2.1 0 9 && (inB t.2.2.2.1 1 4 && inB t.2.2.2.2.2 0 4))))
abbrev zTer : TerT := ((⟨#[]⟩ : ByteArray), ([], ((0 : Int), ((0 : Int), false))))
abbrev zKnd : KndT := ((⟨#[]⟩ : ByteArray), ((0 : Int), ((0 : Int), ((0 : Int), (false, (0 : Int))))))
def limB (r : RulT) : Bool := inB r.2.2.1 1 4 && (inB r.2.2.2.1 0 9 && (inB r.2.2.2.2.1 1 9 && (inB r.2.2.2.2.2.1 0 20 && inB r.2.2.2.2.2.2 1 30)))
def goodR (r : RulT) : Bool := inB (r.1.length : Int) 1 6 && (inB (r.2.1.length : Int) 1 4 && ((List.range r.1.length).all (fun i => terB r i (List.getD r.1 i zTer)) && ((List.range r.2.1.length).all (fun i => kndB r i (List.getD r.2.1 i zKnd)) && limB r)))
theorem sR_l0 {k q : Nat} {r : RulT} (hs : smallR r) (hk : 1048576 < k) (hq : r.1.length < q) (K0 : RulT → Option R) (K1 : Bool → Option R) :
    spec_rGood_l0 k K0 K1 q r.1 (r.1.length : Int) 0 r = bif (List.range r.1.length).all (fun i => terB r i (List.getD r.1 i zTer)) then K0 r else K1 false := by
  obtain ⟨s1, s2, s3, s4⟩ := hs
  refine loop_allN (fun m i => spec_rGood_l0 k K0 K1 m r.1 (r.1.length : Int) (i : Int) r) r.1.length _ (K0 r) (K1 false) ?_ ?_ hq
  · intro m i hi
    show spec_rGood_l0 k K0 K1 (m + 1) r.1 (r.1.length : Int) (i : Int) r = bif terB r i (List.getD r.1 i zTer) then spec_rGood_l0 k K0 K1 m r.1 (r.1.length : Int) ((i + 1 : Nat) : Int) r else _
    have hm := s3 _ (List.getElem_mem hi)
    rw [spec_rGood_l0, dlt, d0, decide_eq_true hi, toNatC, wsucc (by omega), getD_lt hi, rName_eq _ (by omega) (by omega), rTerrain_eq _ _ (by omega) (by omega), l1All_eq _ _ _ (by omega) (by omega), l1In_eq, l1In_eq, dnat]
    unfold terB
    cases nameB r.1[i].1
    · rfl
    cases decide (findI (isT r.1[i].1) r.1 = (i : Int))
    · rfl
    cases decide (r.1[i].2.1.length = r.2.1.length)
    · rfl
    cases (r.1[i].2.1.all fun x => inB x 0 9)
    · rfl
    cases inB r.1[i].2.2.1 (-3) 3
    · rfl
    cases inB r.1[i].2.2.2.1 0 3 <;> rfl
  · intro m
    show spec_rGood_l0 k K0 K1 (m + 1) r.1 (r.1.length : Int) (r.1.length : Int) r = _
    rw [spec_rGood_l0, dlt, decide_eq_false (by omega)]; rfl
theorem sR_l1 {k q : Nat} {r : RulT} (hs : smallR r) (hk : 1048576 < k) (hq : r.2.1.length < q) (K0 : RulT → Option R) (K1 : Bool → Option R) :
    spec_rGood_l1 k K0 K1 q r.2.1 (r.2.1.length : Int) 0 r = bif (List.range r.2.1.length).all (fun i => kndB r i (List.getD r.2.1 i zKnd)) then K0 r else K1 false := by
  obtain ⟨s1, s2, s3, s4⟩ := hs
  refine loop_allN (fun m i => spec_rGood_l1 k K0 K1 m r.2.1 (r.2.1.length : Int) (i : Int) r) r.2.1.length _ (K0 r) (K1 false) ?_ ?_ hq
  · intro m i hi
    show spec_rGood_l1 k K0 K1 (m + 1) r.2.1 (r.2.1.length : Int) (i : Int) r = bif kndB r i (List.getD r.2.1 i zKnd) then spec_rGood_l1 k K0 K1 m r.2.1 (r.2.1.length : Int) ((i + 1 : Nat) : Int) r else _
    have hm := s4 _ (List.getElem_mem hi)
    rw [spec_rGood_l1, dlt, d0, decide_eq_true hi, toNatC, wsucc (by omega), getD_lt hi, rName_eq _ (by omega) (by omega), rKind_eq _ _ (by omega) (by omega), l1In_eq, l1In_eq, l1In_eq, l1In_eq]
    unfold kndB
    cases nameB r.2.1[i].1
    · rfl
    cases decide (findI (isK r.2.1[i].1) r.2.1 = (i : Int))
    · rfl
    cases inB r.2.1[i].2.1 1 9
    · rfl
    cases inB r.2.1[i].2.2.1 0 9
    · rfl
    cases inB r.2.1[i].2.2.2.1 1 4
    · rfl
    cases inB r.2.1[i].2.2.2.2.2 0 4 <;> rfl
  · intro m
    show spec_rGood_l1 k K0 K1 (m + 1) r.2.1 (r.2.1.length : Int) (r.2.1.length : Int) r = _
    rw [spec_rGood_l1, dlt, decide_eq_false (by omega)]; rfl
theorem rGood_eq {r : RulT} (hs : smallR r) (K : Bool → Option R) : spec_rGood 4194304 r K = K (goodR r) := by
  have hs' := hs
  obtain ⟨s1, s2, s3, s4⟩ := hs'
  unfold spec_rGood goodR limB
  rw [l1In_eq, l1In_eq, sR_l0 hs (by omega) (by omega), sR_l1 hs (by omega) (by omega), l1In_eq, l1In_eq, l1In_eq, l1In_eq, l1In_eq]
  cases inB (r.1.length : Int) 1 6
  · rfl
  cases inB (r.2.1.length : Int) 1 4
  · rfl
  cases (List.range r.1.length).all (fun i => terB r i (List.getD r.1 i zTer))
  · rfl
  cases (List.range r.2.1.length).all (fun i => kndB r i (List.getD r.2.1 i zKnd))
  · rfl
  cases inB r.2.2.1 1 4
  · rfl
  cases inB r.2.2.2.1 0 9
  · rfl
  cases inB r.2.2.2.2.1 1 9
  · rfl
  cases inB r.2.2.2.2.2.1 0 20 <;> rfl
theorem goodTerrain_eq {k : Nat} (t : TerT) (n : Nat) (h1 : t.1.size < k) (h2 : t.1.size ≤ 137438953472) (h3 : t.2.1.length < k) (h4 : t.2.1.length ≤ 137438953472) (K : Bool → Option R) :
    impl_goodTerrain k t (n : Int) K = K (nameB t.1 && (decide (t.2.1.length = n) && (inB t.2.2.1 (-3) 3 && (inB t.2.2.2.1 0 3 && t.2.1.all fun x => inB x 0 9)))) := by
  unfold impl_goodTerrain
  rw [isName_eq _ h1 h2, dnat, inRange_eq, inRange_eq, notCost_eq _ h3 h4]
  cases nameB t.1
  · rfl
  cases decide (t.2.1.length = n)
  · rfl
  cases inB t.2.2.1 (-3) 3
  · rfl
  cases inB t.2.2.2.1 0 3
  · rfl
  cases (t.2.1.all fun x => inB x 0 9) <;> rfl
theorem goodKind_eq {k : Nat} (t : KndT) (h1 : t.1.size < k) (h2 : t.1.size ≤ 137438953472) (K : Bool → Option R) :
    impl_goodKind k t K = K (nameB t.1 && (inB t.2.1 1 9 && (inB t.2.2.1 0 9 && (inB t.2.2.2.1 1 4 && inB t.2.2.2.2.2 0 4)))) := by
  unfold impl_goodKind
  rw [isName_eq _ h1 h2, inRange_eq, inRange_eq, inRange_eq, inRange_eq]
  cases nameB t.1
  · rfl
  cases inB t.2.1 1 9
  · rfl
  cases inB t.2.2.1 0 9
  · rfl
  cases inB t.2.2.2.1 1 4 <;> rfl
theorem iR_l0 {k q : Nat} {r : RulT} (hs : smallR r) (hk : 1048576 < k) (hq : r.1.length < q) (K0 : RulT → Option R) (K1 : Bool → Option R) :
    impl_IsRules_l0 k K0 K1 q r.1 (r.1.length : Int) 0 r = bif (List.range r.1.length).all (fun i => terB r i (List.getD r.1 i zTer)) then K0 r else K1 false := by
  obtain ⟨s1, s2, s3, s4⟩ := hs
  refine loop_allN (fun m i => impl_IsRules_l0 k K0 K1 m r.1 (r.1.length : Int) (i : Int) r) r.1.length _ (K0 r) (K1 false) ?_ ?_ hq
  · intro m i hi
    show impl_IsRules_l0 k K0 K1 (m + 1) r.1 (r.1.length : Int) (i : Int) r = bif terB r i (List.getD r.1 i zTer) then impl_IsRules_l0 k K0 K1 m r.1 (r.1.length : Int) ((i + 1 : Nat) : Int) r else _
    have hm := s3 _ (List.getElem_mem hi)
    rw [impl_IsRules_l0, dlt, d0, decide_eq_true hi, toNatC, wsucc (by omega), getD_lt hi, goodTerrain_eq _ _ (by omega) (by omega) (by omega) (by omega), terrainIndex_eq _ _ (by omega) (by omega)]
    unfold terB
    cases nameB r.1[i].1
    · rfl
    cases decide (findI (isT r.1[i].1) r.1 = (i : Int)) <;> cases decide (r.1[i].2.1.length = r.2.1.length) <;> cases (r.1[i].2.1.all fun x => inB x 0 9) <;> cases inB r.1[i].2.2.1 (-3) 3 <;> cases inB r.1[i].2.2.2.1 0 3 <;> rfl
  · intro m
    show impl_IsRules_l0 k K0 K1 (m + 1) r.1 (r.1.length : Int) (r.1.length : Int) r = _
    rw [impl_IsRules_l0, dlt, decide_eq_false (by omega)]; rfl
theorem iR_l1 {k q : Nat} {r : RulT} (hs : smallR r) (hk : 1048576 < k) (hq : r.2.1.length < q) (K0 : RulT → Option R) (K1 : Bool → Option R) :
    impl_IsRules_l1 k K0 K1 q r.2.1 (r.2.1.length : Int) 0 r = bif (List.range r.2.1.length).all (fun i => kndB r i (List.getD r.2.1 i zKnd)) then K0 r else K1 false := by
  obtain ⟨s1, s2, s3, s4⟩ := hs
  refine loop_allN (fun m i => impl_IsRules_l1 k K0 K1 m r.2.1 (r.2.1.length : Int) (i : Int) r) r.2.1.length _ (K0 r) (K1 false) ?_ ?_ hq
  · intro m i hi
    show impl_IsRules_l1 k K0 K1 (m + 1) r.2.1 (r.2.1.length : Int) (i : Int) r = bif kndB r i (List.getD r.2.1 i zKnd) then impl_IsRules_l1 k K0 K1 m r.2.1 (r.2.1.length : Int) ((i + 1 : Nat) : Int) r else _
    have hm := s4 _ (List.getElem_mem hi)
    rw [impl_IsRules_l1, dlt, d0, decide_eq_true hi, toNatC, wsucc (by omega), getD_lt hi, goodKind_eq _ (by omega) (by omega), kindIndex_eq _ _ (by omega) (by omega)]
    unfold kndB
    cases nameB r.2.1[i].1
    · rfl
    cases decide (findI (isK r.2.1[i].1) r.2.1 = (i : Int)) <;> cases inB r.2.1[i].2.1 1 9 <;> cases inB r.2.1[i].2.2.1 0 9 <;> cases inB r.2.1[i].2.2.2.1 1 4 <;> cases inB r.2.1[i].2.2.2.2.2 0 4 <;> rfl
  · intro m
    show impl_IsRules_l1 k K0 K1 (m + 1) r.2.1 (r.2.1.length : Int) (r.2.1.length : Int) r = _
    rw [impl_IsRules_l1, dlt, decide_eq_false (by omega)]; rfl
theorem IsRules_eq {r : RulT} (hs : smallR r) (K : Bool → Option R) : impl_IsRules 4194304 r K = K (goodR r) := by
  have hs' := hs
  obtain ⟨s1, s2, s3, s4⟩ := hs'
  unfold impl_IsRules goodR limB
  rw [inRange_eq, inRange_eq, iR_l0 hs (by omega) (by omega), iR_l1 hs (by omega) (by omega), inRange_eq, inRange_eq, inRange_eq, inRange_eq, inRange_eq]
  cases inB (r.1.length : Int) 1 6
  · rfl
  cases inB (r.2.1.length : Int) 1 4
  · rfl
  cases (List.range r.1.length).all (fun i => terB r i (List.getD r.1 i zTer))
  · rfl
  cases (List.range r.2.1.length).all (fun i => kndB r i (List.getD r.2.1 i zKnd))
  · rfl
  cases inB r.2.2.1 1 4
  · rfl
  cases inB r.2.2.2.1 0 9
  · rfl
  cases inB r.2.2.2.2.1 1 9
  · rfl
  cases inB r.2.2.2.2.2.1 0 20 <;> rfl
/-! ### the laws -/
theorem sIsRules_eq {r : RulT} (hs : smallR r) (K : Bool → Option R) : spec_IsRules 4194304 r K = K (goodR r) := by unfold spec_IsRules; rw [rGood_eq hs]
theorem law_FnExactIsRules (r : RulT) (w : Wf RulTy r) (K : Bool → Option R) : laws_FnExactIsRules 4194304 r K = K true := by
  unfold laws_FnExactIsRules
  rw [szR_eq (by omega) (wfRul w) _ inL0]
  rcases szR_ok r 1048576 inL0 with h | ⟨g1, g2, hs⟩
  · rw [h]; rfl
  · rw [decide_eq_false (by omega), cond_false, toRul_eq hs, sIsRules_eq hs, toRul_eq hs, IsRules_eq hs, toRul_eq hs, eqRul_self hs]
    simp
theorem KindNamed_same {r : RulT} (hs : smallR r) (n : ByteArray) : ∃ v b, (∀ {R : Type} (K : Int → Bool → Option R), spec_KindNamed 4194304 r n K = K v b) ∧ ∀ {R : Type} (K : Int → Bool → Option R), impl_KindNamed 4194304 r n K = K v b := by
  have hs' := hs
  obtain ⟨s1, s2, s3, s4⟩ := hs'
  cases hg : goodR r
  · exact ⟨0, false, fun K => by unfold spec_KindNamed; rw [rGood_eq hs, hg]; rfl, fun K => by unfold impl_KindNamed; rw [IsRules_eq hs, hg]; rfl⟩
  by_cases hf : findI (isK n) r.2.1 < 0
  · exact ⟨0, false, fun K => by unfold spec_KindNamed; rw [rGood_eq hs, hg, rKind_eq _ _ (by omega) (by omega), decide_eq_true hf]; rfl, fun K => by unfold impl_KindNamed; rw [IsRules_eq hs, hg, kindIndex_eq _ _ (by omega) (by omega), decide_eq_true hf]; rfl⟩
  · exact ⟨findI (isK n) r.2.1, true, fun K => by unfold spec_KindNamed; rw [rGood_eq hs, hg, rKind_eq _ _ (by omega) (by omega), decide_eq_false hf, Bool.not_true, cond_false, cond_false, rKind_eq _ _ (by omega) (by omega)],
      fun K => by unfold impl_KindNamed; rw [IsRules_eq hs, hg, kindIndex_eq _ _ (by omega) (by omega), decide_eq_false hf, Bool.not_true, cond_false, cond_false, kindIndex_eq _ _ (by omega) (by omega)]⟩
theorem TerrainNamed_same {r : RulT} (hs : smallR r) (n : ByteArray) : ∃ v b, (∀ {R : Type} (K : Int → Bool → Option R), spec_TerrainNamed 4194304 r n K = K v b) ∧ ∀ {R : Type} (K : Int → Bool → Option R), impl_TerrainNamed 4194304 r n K = K v b := by
  have hs' := hs
  obtain ⟨s1, s2, s3, s4⟩ := hs'
  cases hg : goodR r
  · exact ⟨0, false, fun K => by unfold spec_TerrainNamed; rw [rGood_eq hs, hg]; rfl, fun K => by unfold impl_TerrainNamed; rw [IsRules_eq hs, hg]; rfl⟩
  by_cases hf : findI (isT n) r.1 < 0
  · exact ⟨0, false, fun K => by unfold spec_TerrainNamed; rw [rGood_eq hs, hg, rTerrain_eq _ _ (by omega) (by omega), decide_eq_true hf]; rfl, fun K => by unfold impl_TerrainNamed; rw [IsRules_eq hs, hg, terrainIndex_eq _ _ (by omega) (by omega), decide_eq_true hf]; rfl⟩
  · exact ⟨findI (isT n) r.1, true, fun K => by unfold spec_TerrainNamed; rw [rGood_eq hs, hg, rTerrain_eq _ _ (by omega) (by omega), decide_eq_false hf, Bool.not_true, cond_false, cond_false, rTerrain_eq _ _ (by omega) (by omega)],
      fun K => by unfold impl_TerrainNamed; rw [IsRules_eq hs, hg, terrainIndex_eq _ _ (by omega) (by omega), decide_eq_false hf, Bool.not_true, cond_false, cond_false, terrainIndex_eq _ _ (by omega) (by omega)]⟩
theorem law_FnExactKindNamed (r : RulT) (w : Wf RulTy r) (n : ByteArray) (w2 : Wf .str n) (K : Bool → Option R) : laws_FnExactKindNamed 4194304 r n K = K true := by
  unfold laws_FnExactKindNamed
  cases decide ((1048576 : Int) < ((ByteArray.size n : Nat) : Int))
  · rw [cond_false, szR_eq (by omega) (wfRul w) _ inL0]
    rcases szR_ok r 1048576 inL0 with h | ⟨g1, g2, hs⟩
    · rw [h]; rfl
    · obtain ⟨v, b, e1, e2⟩ := KindNamed_same hs n
      rw [decide_eq_false (by omega), cond_false, toRul_eq hs, e1, toRul_eq hs, e2, toRul_eq hs, eqRul_self hs]
      simp
  · rfl
theorem law_FnExactTerrainNamed (r : RulT) (w : Wf RulTy r) (n : ByteArray) (w2 : Wf .str n) (K : Bool → Option R) : laws_FnExactTerrainNamed 4194304 r n K = K true := by
  unfold laws_FnExactTerrainNamed
  cases decide ((1048576 : Int) < ((ByteArray.size n : Nat) : Int))
  · rw [cond_false, szR_eq (by omega) (wfRul w) _ inL0]
    rcases szR_ok r 1048576 inL0 with h | ⟨g1, g2, hs⟩
    · rw [h]; rfl
    · obtain ⟨v, b, e1, e2⟩ := TerrainNamed_same hs n
      rw [decide_eq_false (by omega), cond_false, toRul_eq hs, e1, toRul_eq hs, e2, toRul_eq hs, eqRul_self hs]
      simp
  · rfl
end
end Go.Lg
/- Boards: what the functions answer; their laws. -/
set_option linter.unusedSimpArgs false
set_option linter.unusedVariables false
namespace Go.Lg
open Go Go.Ev
section
variable {R α : Type}
abbrev BrdT := RulT × MapT
abbrev BrdTy : Ty := .st (.pair RulTy MapTy)
def smallB (b : BrdT) : Prop := smallR b.1 ∧ small b.2
theorem szBoard_ret {b : BrdT} (w : Wf BrdTy b) : ∃ r : Int, (∀ {R : Type} (K : Int → Option R), laws_szBoard 4194304 b 1048576 K = K r) ∧ (r = -1 ∨ (inL r ∧ smallB b)) := by
  obtain ⟨w1, w2⟩ := w
  rcases szR_ok b.1 1048576 inL0 with h | ⟨g1, g2, hs⟩
  · exact ⟨-1, fun K => by unfold laws_szBoard; rw [szR_eq (by omega) (wfRul w1) _ inL0, h]; rfl, .inl rfl⟩
  · obtain ⟨r, h1, h2⟩ := szMap_ret w2 (szR b.1 1048576) ⟨g1, g2⟩
    refine ⟨r, fun K => ?_, ?_⟩
    · unfold laws_szBoard
      rw [szR_eq (by omega) (wfRul w1) _ inL0, decide_eq_false (by omega), cond_false, h1]
      rcases h2 with h2 | ⟨h2, _⟩
      · rw [h2]; rfl
      · rw [decide_eq_false (by omega)]; rfl
    · rcases h2 with h2 | ⟨h2, h3, h4⟩
      · exact .inl h2
      · exact .inr ⟨⟨h2, by omega⟩, hs, h4⟩
theorem toBrd_eq {b : BrdT} (hs : smallB b) (K : BrdT → Option R) : laws_toBoard 4194304 b K = K b := by
  unfold laws_toBoard
  rw [toRul_eq hs.1, toMap_eq hs.2]
theorem eqBrd_self {b : BrdT} (hs : smallB b) (K : Bool → Option R) : laws_eqBoard 4194304 b b K = K true := by
  unfold laws_eqBoard
  rw [eqRul_self hs.1, Bool.not_true, cond_false, eqMap_self hs.2]; rfl
def goodB (b : BrdT) : Bool := goodR b.1 && (good b.2 && b.2.2.2.1.all fun x => inB x 0 ((b.1.1.length : Int) - 1))
theorem good_rul {r : RulT} (h : goodR r = true) : (1 ≤ r.1.length ∧ r.1.length ≤ 6) ∧ (1 ≤ r.2.1.length ∧ r.2.1.length ≤ 4) ∧ (∀ i < r.1.length, terB r i (List.getD r.1 i zTer) = true) ∧ (∀ i < r.2.1.length, kndB r i (List.getD r.2.1 i zKnd) = true) ∧ limB r = true := by
  unfold goodR at h
  simp only [Bool.and_eq_true, inB_iff, List.all_eq_true, List.mem_range] at h
  obtain ⟨h1, h2, h3, h4, h5⟩ := h
  exact ⟨by omega, by omega, h3, h4, h5⟩
theorem bGood_eq {b : BrdT} (hs : smallB b) (K : Bool → Option R) : spec_bGood 4194304 b K = K (goodB b) := by
  obtain ⟨s1, s2⟩ := hs
  have s2' := s2
  obtain ⟨q1, q2, q3⟩ := s2'
  unfold spec_bGood goodB
  rw [rGood_eq s1, mGood_eq s2]
  cases hg : goodR b.1
  · rfl
  obtain ⟨h1, _⟩ := good_rul hg
  rw [w64 (by omega), l1All_eq _ _ _ (by omega) (by omega)]
  cases good b.2
  · rfl
  cases (b.2.2.2.1.all fun x => inB x 0 ((b.1.1.length : Int) - 1)) <;> rfl
theorem ter_ge {m : MapT} (h : good m = true) : ∀ x ∈ m.2.2.1, 0 ≤ x ∧ x ≤ 5 := by
  unfold good at h
  simp only [Bool.and_eq_true, inB_iff, List.all_eq_true] at h
  exact h.2.2.2.1
theorem notTer_eq {k : Nat} (l : List Int) (b : BrdT) (h : l.length < k) (hb : l.length ≤ 137438953472) (K : Bool → Option R) : slices_ContainsFunc_Sint_int__impl_IsBoard_1 k l b K = K (l.any fun x => decide ((b.1.1.length : Int) ≤ x)) := by
  unfold slices_ContainsFunc_Sint_int__impl_IsBoard_1 slices_IndexFunc_Sint_int__impl_IsBoard_1
  have := loop_find (fun m i => slices_IndexFunc_Sint_int__impl_IsBoard_1_l0 k (K (decide ((0 : Int) ≤ -1))) (fun x => K (decide (0 ≤ x))) m l b (l.length : Int) (i : Int)) l (fun x => decide ((b.1.1.length : Int) ≤ x)) (fun x => K (decide (0 ≤ x))) ?_ ?_ (m := k) h
  · refine this.trans ?_
    show K (decide (0 ≤ findI (fun x => decide ((b.1.1.length : Int) ≤ x)) l)) = _
    rw [findI_ge]
  · intro m i hi
    show slices_IndexFunc_Sint_int__impl_IsBoard_1_l0 k _ _ (m + 1) l b (l.length : Int) (i : Int) = bif _ then _ else slices_IndexFunc_Sint_int__impl_IsBoard_1_l0 k _ _ m l b (l.length : Int) ((i + 1 : Nat) : Int)
    rw [slices_IndexFunc_Sint_int__impl_IsBoard_1_l0, dlt, d0, decide_eq_true hi, toNatC, wsucc (by omega), getD_lt hi]
    rfl
  · intro m
    show slices_IndexFunc_Sint_int__impl_IsBoard_1_l0 k _ _ (m + 1) l b (l.length : Int) (l.length : Int) = _
    rw [slices_IndexFunc_Sint_int__impl_IsBoard_1_l0, dlt, decide_eq_false (by omega)]; rfl
theorem IsBoard_eq {b : BrdT} (hs : smallB b) (K : Bool → Option R) : impl_IsBoard 4194304 b K = K (goodB b) := by
  obtain ⟨s1, s2⟩ := hs
  have s2' := s2
  obtain ⟨q1, q2, q3⟩ := s2'
  unfold impl_IsBoard goodB
  rw [IsRules_eq s1, IsMap_eq s2, notTer_eq _ _ (by omega) (by omega)]
  cases hg : goodR b.1
  · rfl
  cases hm : good b.2
  · rfl
  show K (!(b.2.2.2.1.any fun x => decide ((b.1.1.length : Int) ≤ x))) = K (b.2.2.2.1.all fun x => inB x 0 ((b.1.1.length : Int) - 1))
  congr 1
  have h0 := ter_ge hm
  rw [Bool.eq_iff_iff]
  simp only [Bool.not_eq_true', List.any_eq_false, List.all_eq_true, decide_eq_true_eq, inB_iff]
  constructor
  · intro h x hx
    have := h x hx
    have := h0 x hx
    omega
  · intro h x hx
    have := h x hx
    omega
theorem sIsBoard_eq {b : BrdT} (hs : smallB b) (K : Bool → Option R) : spec_IsBoard 4194304 b K = K (goodB b) := by unfold spec_IsBoard; rw [bGood_eq hs]
theorem law_FnExactIsBoard (b : BrdT) (w : Wf BrdTy b) (K : Bool → Option R) : laws_FnExactIsBoard 4194304 b K = K true := by
  obtain ⟨r, h1, h2⟩ := szBoard_ret w
  unfold laws_FnExactIsBoard
  rw [h1]
  rcases h2 with rfl | ⟨⟨g1, g2⟩, hs⟩
  · rfl
  · rw [decide_eq_false (by omega), cond_false, toBrd_eq hs, sIsBoard_eq hs, toBrd_eq hs, IsBoard_eq hs, toBrd_eq hs, eqBrd_self hs]
    simp
/-! ### costs -/
theorem good_brd {b : BrdT} (h : goodB b = true) : goodR b.1 = true ∧ good b.2 = true ∧ ∀ x ∈ b.2.2.2.1, 0 ≤ x ∧ x ≤ (b.1.1.length : Int) - 1 := by
  unfold goodB at h
  simp only [Bool.and_eq_true, inB_iff, List.all_eq_true] at h
  exact h
def terAt (b : BrdT) (i : Int) : TerT := List.getD b.1.1 (Int.toNat (List.getD b.2.2.2.1 (Int.toNat i) (0 : Int))) zTer
def costAt (b : BrdT) (kind i : Int) : Int := List.getD (terAt b i).2.1 (Int.toNat kind) (0 : Int)
def area (b : BrdT) : Int := b.2.1 * b.2.2.1
theorem area_ok {b : BrdT} (h : goodB b = true) : (b.2.2.2.1.length : Int) = area b ∧ 1 ≤ area b ∧ area b ≤ 100 := by
  obtain ⟨_, hm, _⟩ := good_brd h
  exact ⟨ter_len hm, area_le (good_dim hm)⟩
theorem terAt_ok {b : BrdT} (h : goodB b = true) {i : Int} (hi : 0 ≤ i ∧ i < area b) :
    (0 ≤ List.getD b.2.2.2.1 (Int.toNat i) (0 : Int) ∧ List.getD b.2.2.2.1 (Int.toNat i) (0 : Int) < (b.1.1.length : Int)) ∧ (terAt b i).2.1.length = b.1.2.1.length ∧ ∀ x ∈ (terAt b i).2.1, 0 ≤ x ∧ x ≤ 9 := by
  obtain ⟨h1, _, _⟩ := area_ok h
  obtain ⟨hr, hm, ht⟩ := good_brd h
  obtain ⟨_, _, h3, _, _⟩ := good_rul hr
  have hin : List.getD b.2.2.2.1 (Int.toNat i) (0 : Int) ∈ b.2.2.2.1 := by
    rw [getD_lt (by omega)]; exact List.getElem_mem _
  have h0 := ht _ hin
  refine ⟨by omega, ?_⟩
  have h4 := h3 (Int.toNat (List.getD b.2.2.2.1 (Int.toNat i) (0 : Int))) (by omega)
  unfold terB at h4
  simp only [Bool.and_eq_true, inB_iff, List.all_eq_true, decide_eq_true_eq] at h4
  exact ⟨h4.2.2.1, h4.2.2.2.1⟩
theorem costAt_ok {b : BrdT} (h : goodB b = true) {kind i : Int} (hi : 0 ≤ i ∧ i < area b) (hk : 0 ≤ kind ∧ kind < (b.1.2.1.length : Int)) : 0 ≤ costAt b kind i ∧ costAt b kind i ≤ 9 := by
  obtain ⟨_, h2, h3⟩ := terAt_ok h hi
  unfold costAt
  refine h3 _ ?_
  rw [getD_lt (by omega)]; exact List.getElem_mem _
theorem bCost_eq {b : BrdT} (h : goodB b = true) {kind i : Int} (hi : 0 ≤ i ∧ i < area b) (hk : 0 ≤ kind ∧ kind < (b.1.2.1.length : Int)) (K : Int → Option R) : spec_bCost b kind i K = K (costAt b kind i) := by
  obtain ⟨h1, _, _⟩ := area_ok h
  obtain ⟨g1, g2, _⟩ := terAt_ok h hi
  unfold spec_bCost spec_bTerrain
  rw [decide_eq_true hi.1, decide_eq_true (by omega : i < (b.2.2.2.1.length : Int)), decide_eq_true g1.1, decide_eq_true g1.2]
  show (bif decide (0 ≤ kind) && decide (kind < ((terAt b i).2.1.length : Int)) then K (costAt b kind i) else none) = _
  rw [g2, decide_eq_true hk.1, decide_eq_true hk.2]; rfl
theorem enterCost_eq {b : BrdT} (h : goodB b = true) {kind i : Int} (hi : 0 ≤ i ∧ i < area b) (hk : 0 ≤ kind ∧ kind < (b.1.2.1.length : Int)) (K : Int → Option R) : impl_enterCost b kind i K = K (costAt b kind i) := by
  obtain ⟨h1, _, _⟩ := area_ok h
  obtain ⟨g1, g2, _⟩ := terAt_ok h hi
  unfold impl_enterCost impl_terrainAt
  rw [decide_eq_true hi.1, decide_eq_true (by omega : i < (b.2.2.2.1.length : Int)), decide_eq_true g1.1, decide_eq_true g1.2]
  show (bif decide (0 ≤ kind) && decide (kind < ((terAt b i).2.1.length : Int)) then K (costAt b kind i) else none) = _
  rw [g2, decide_eq_true hk.1, decide_eq_true hk.2]; rfl
def bAtB (b : BrdT) (kind i : Int) : Bool := goodB b && (inB kind 0 ((b.1.2.1.length : Int) - 1) && inB i 0 (area b - 1))
theorem bAt_eq {b : BrdT} (hs : smallB b) (kind i : Int) (K : Bool → Option R) : spec_bAt 4194304 b kind i K = K (bAtB b kind i) := by
  unfold spec_bAt bAtB
  rw [bGood_eq hs]
  cases hg : goodB b
  · rfl
  obtain ⟨hr, hm, _⟩ := good_brd hg
  obtain ⟨_, h2, _⟩ := good_rul hr
  obtain ⟨_, h3, h4⟩ := area_ok hg
  rw [cond_true, w64 (by omega), l1In_eq]
  cases inB kind 0 ((b.1.2.1.length : Int) - 1)
  · rfl
  have h4' : b.2.1 * b.2.2.1 ≤ 100 := h4
  have h3' : 1 ≤ b.2.1 * b.2.2.1 := h3
  rw [cond_true, mSize_eq (good_dim hm), w64 (by omega), l1In_eq]; rfl
def kindB (b : BrdT) (kind : Int) : Bool := goodB b && inB kind 0 ((b.1.2.1.length : Int) - 1)
theorem isKindOf_eq {b : BrdT} (hs : smallB b) (kind : Int) (K : Bool → Option R) : impl_isKindOf 4194304 b kind K = K (kindB b kind) := by
  unfold impl_isKindOf kindB
  rw [IsBoard_eq hs]
  cases hg : goodB b
  · rfl
  obtain ⟨hr, hm, _⟩ := good_brd hg
  obtain ⟨_, h2, _⟩ := good_rul hr
  rw [cond_true, isIndex_eq _ _ (by omega)]; rfl
theorem sizeOf_eq (b : BrdT) (K : Int → Option R) : impl_sizeOf b K = K (b.2.2.2.1.length : Int) := rfl
theorem EnterCost_same {b : BrdT} (hs : smallB b) (kind i : Int) : ∃ v c, (∀ {R : Type} (K : Int → Bool → Option R), spec_EnterCost 4194304 b kind i K = K v c) ∧ ∀ {R : Type} (K : Int → Bool → Option R), impl_EnterCost 4194304 b kind i K = K v c := by
  cases hk : kindB b kind
  · have : bAtB b kind i = false := by
      unfold kindB at hk; unfold bAtB
      cases hg : goodB b
      · rfl
      · rw [hg] at hk
        rw [show inB kind 0 ((b.1.2.1.length : Int) - 1) = false from hk]; rfl
    exact ⟨0, false, fun K => by unfold spec_EnterCost; rw [bAt_eq hs, this]; rfl, fun K => by unfold impl_EnterCost; rw [isKindOf_eq hs, hk]; rfl⟩
  · unfold kindB at hk
    have hk' := hk
    simp only [Bool.and_eq_true, inB_iff] at hk
    obtain ⟨hg, hk⟩ := hk
    obtain ⟨g1, g2, g3⟩ := area_ok hg
    have hk2 : inB kind 0 ((b.1.2.1.length : Int) - 1) = true := inB_iff.2 hk
    have hkk : kindB b kind = true := hk'
    cases hi : inB i 0 (area b - 1)
    · have : bAtB b kind i = false := by unfold bAtB; rw [hg, hk2, hi]; rfl
      exact ⟨0, false, fun K => by unfold spec_EnterCost; rw [bAt_eq hs, this]; rfl,
        fun K => by unfold impl_EnterCost; rw [isKindOf_eq hs, hkk, sizeOf_eq, isIndex_eq _ _ (by omega), g1, hi]; rfl⟩
    · have : bAtB b kind i = true := by unfold bAtB; rw [hg, hk2, hi]; rfl
      have hi' := inB_iff.1 hi
      exact ⟨costAt b kind i, true, fun K => by unfold spec_EnterCost; rw [bAt_eq hs, this, Bool.not_true, cond_false, bCost_eq hg ⟨hi'.1, by omega⟩ ⟨hk.1, by omega⟩],
        fun K => by unfold impl_EnterCost; rw [isKindOf_eq hs, hkk, sizeOf_eq, isIndex_eq _ _ (by omega), g1, hi, Bool.not_true, cond_false, cond_false, enterCost_eq hg ⟨hi'.1, by omega⟩ ⟨hk.1, by omega⟩]⟩
theorem law_FnExactEnterCost (b : BrdT) (w : Wf BrdTy b) (kind : Int) (w2 : Wf (.int .i64) kind) (i : Int) (w3 : Wf (.int .i64) i) (K : Bool → Option R) : laws_FnExactEnterCost 4194304 b kind i K = K true := by
  obtain ⟨r, h1, h2⟩ := szBoard_ret w
  unfold laws_FnExactEnterCost
  rw [h1]
  rcases h2 with rfl | ⟨⟨g1, g2⟩, hs⟩
  · rfl
  · obtain ⟨v, c, e1, e2⟩ := EnterCost_same hs kind i
    rw [decide_eq_false (by omega), cond_false, toBrd_eq hs, e1, toBrd_eq hs, e2, toBrd_eq hs, eqBrd_self hs]
    simp
end
end Go.Lg
/- Marks of tables, rules, boards. -/
set_option linter.unusedSimpArgs false
set_option linter.unusedVariables false
namespace Go.Lg
open Go Go.Ev
section
variable {R α σ ι : Type}
theorem set_at' {l r : List α} {x y : α} : (l ++ x :: r).set l.length y = l ++ y :: r := set_at rfl
theorem getD_at' {l r : List α} {x d : α} : (l ++ x :: r).getD l.length d = x := getD_at rfl
theorem len_at {l r : List α} {x : α} : (l ++ x :: r).length = l.length + (r.length + 1) := by simp
theorem lt_at {a b : Nat} : decide ((a : Int) < ((a + (b + 1) : Nat) : Int)) = true := decide_eq_true (by omega)
/-! ### rows of numbers -/
theorem markIntS_k {k : Nat} (a : List Int) (k0 : Int) (hk : 0 ≤ k0 ∧ k0 + a.length ≤ 4000000000000000) (h : a.length < k) (hb : a.length ≤ 137438953472) (K : List Int → Int → Option R) : laws_markIntS_in k a k0 K = K (mI k0 a.length) (k0 + (a.length : Int)) := by
  unfold laws_markIntS_in
  have h0 : a = mI k0 0 ++ a.drop 0 := by simp [mI]
  conv => lhs; rw [h0]
  have e0 : k0 = k0 + ((0 : Nat) : Int) := by omega
  conv => lhs; arg 4; rw [e0]
  refine loop_det (fun m i s => laws_markIntS_in_l0 k (fun x y => K y x) m (k0 + (i : Int)) (i : Int) s) a.length (fun i => mI k0 i ++ a.drop i) _ ?_ ?_ k 0 (Nat.zero_le _) (by omega)
  · intro m i hi
    show laws_markIntS_in_l0 k _ (m + 1) (k0 + (i : Int)) (i : Int) (mI k0 i ++ a.drop i) = laws_markIntS_in_l0 k _ m (k0 + ((i + 1 : Nat) : Int)) ((i + 1 : Nat) : Int) (mI k0 (i + 1) ++ a.drop (i + 1))
    have hl : (mI k0 i ++ a.drop i).length = a.length := by rw [List.length_append, mI_len, List.length_drop]; omega
    rw [laws_markIntS_in_l0, hl, dlt, d0, decide_eq_true hi, toNatC, wsucc (by omega), List.drop_eq_getElem_cons hi, set_at (mI_len k0 i), w64 (by omega), mI_succ, List.append_assoc, show k0 + (i : Int) + 1 = k0 + ((i + 1 : Nat) : Int) by omega]
    rfl
  · intro m
    have hl : (mI k0 a.length ++ a.drop a.length) = mI k0 a.length := by rw [List.drop_length, List.append_nil]
    show laws_markIntS_in_l0 k _ (m + 1) (k0 + (a.length : Int)) (a.length : Int) (mI k0 a.length ++ a.drop a.length) = _
    rw [hl, laws_markIntS_in_l0, mI_len, dlt, decide_eq_false (by omega)]; rfl
theorem heldIntS_k {k : Nat} (k0 : Int) (n : Nat) (hk : 0 ≤ k0 ∧ k0 + n ≤ 4000000000000000) (h : n < k) (hb : n ≤ 137438953472) (K : Int → Option R) : laws_heldIntS k (mI k0 n) k0 K = K (k0 + (n : Int)) := by
  unfold laws_heldIntS
  have e0 : k0 = k0 + ((0 : Nat) : Int) := by omega
  conv => lhs; arg 6; rw [e0]
  refine loop_det (fun m i s => laws_heldIntS_l0 k (fun x => K x) (fun x => K x) m (mI k0 n) s (i : Int)) n (fun i => k0 + (i : Int)) _ ?_ ?_ k 0 (Nat.zero_le _) (by omega)
  · intro m i hi
    show laws_heldIntS_l0 k _ _ (m + 1) (mI k0 n) (k0 + (i : Int)) (i : Int) = laws_heldIntS_l0 k _ _ m (mI k0 n) (k0 + ((i + 1 : Nat) : Int)) ((i + 1 : Nat) : Int)
    have e : (mI k0 n).getD i 0 = k0 + (i : Int) := by
      rw [getD_lt (by rw [mI_len]; exact hi)]; simp [mI]
    rw [laws_heldIntS_l0, mI_len, dlt, d0, decide_eq_true hi, toNatC, wsucc (by omega), e, decide_eq_true rfl, w64 (by omega), show k0 + (i : Int) + 1 = k0 + ((i + 1 : Nat) : Int) by omega]
    rfl
  · intro m
    show laws_heldIntS_l0 k _ _ (m + 1) (mI k0 n) (k0 + (n : Int)) (n : Int) = _
    rw [laws_heldIntS_l0, mI_len, dlt, decide_eq_false (by omega)]; rfl
def fI (k : Int) (a : List Int) : List Int := mI k a.length
def cI (a : List Int) : Nat := a.length
theorem markIntSS_k {k : Nat} (a : List (List Int)) (k0 : Int) (h0 : 0 ≤ k0) (hc : k0 + cS cI a ≤ 4000000000000000) (hl : a.length < k) (hb : a.length ≤ 137438953472) (hx : ∀ x ∈ a, x.length < k ∧ x.length ≤ 137438953472) (K : List (List Int) → Int → Option R) : laws_markIntSS_in k a k0 K = K (fS fI cI k0 a) (k0 + (cS cI a : Int)) := by
  unfold laws_markIntSS_in
  refine loop_mark fI cI (fun m k1 i s => laws_markIntSS_in_l0 k (fun k_1 b => K b k_1) m k1 (i : Int) s) (fun k1 s => K s k1) (fun x => x.length < k ∧ x.length ≤ 137438953472) ?_ ?_ k [] a k0 hx h0 hc (by simpa using hb) hl
  · intro m k1 x pre r hx h0 h1 hl
    show laws_markIntSS_in_l0 k _ (m + 1) k1 (pre.length : Int) (pre ++ x :: r) = laws_markIntSS_in_l0 k _ m (k1 + (cI x : Nat)) ((pre.length + 1 : Nat) : Int) (pre ++ fI k1 x :: r)
    simp only [List.length_cons] at hl
    unfold cI at h1
    rw [laws_markIntSS_in_l0, len_at, lt_at, d0, toNatC, wsucc (by omega), getD_at', markIntS_k x k1 ⟨h0, h1⟩ hx.1 hx.2, set_at']
    rfl
  · intro m k1 s hs
    show laws_markIntSS_in_l0 k _ (m + 1) k1 (s.length : Int) s = _
    rw [laws_markIntSS_in_l0, dlt, decide_eq_false (by omega)]; rfl
/-! ### odds -/
theorem markOddsS_hex {k : Nat} (K0 : Int → List (Int × Int) → Option R) : ∀ (m : Nat) (x y : Int) (a : List (Int × Int)), laws_markOddsS_in_l0 k K0 m x y a = laws_markHexS_in_l0 k K0 m x y a
  | 0, _, _, _ => rfl
  | m + 1, x, y, a => by
    rw [laws_markOddsS_in_l0, laws_markHexS_in_l0]
    simp only [markOddsS_hex K0 m]
theorem markOddsS_k {k : Nat} (a : List (Int × Int)) (k0 : Int) (hk : 0 ≤ k0 ∧ k0 + 2 * a.length ≤ 4000000000000000) (h : a.length < k) (hb : a.length ≤ 137438953472) (K : List (Int × Int) → Int → Option R) : laws_markOddsS_in k a k0 K = K (mHk k0 a.length) (k0 + 2 * (a.length : Int)) := by
  have := markHexS_k a k0 hk h hb K
  unfold laws_markHexS_in at this
  unfold laws_markOddsS_in
  rw [markOddsS_hex]
  exact this
theorem cS_bound (c : α → Nat) (B : Nat) : ∀ (l : List α), (∀ x ∈ l, c x ≤ B) → cS c l ≤ B * l.length
  | [], _ => by simp [cS]
  | x :: l, h => by
    have h1 := h x (by simp)
    have h2 := cS_bound c B l (fun y hy => h y (by simp [hy]))
    simp only [cS, List.length_cons, Nat.mul_succ]
    omega
theorem cS_small (c : α → Nat) (l : List α) (hl : l.length ≤ 1048576) (h : ∀ x ∈ l, c x ≤ 1048580) : cS c l ≤ 1099515822080 := by
  have h1 := cS_bound c 1048580 l h
  have h2 : 1048580 * l.length ≤ 1048580 * 1048576 := Nat.mul_le_mul_left _ hl
  omega
def markTab (k : Int) (t : TabT) : TabT := (mHk k t.1.length, t.2.1, fS fI cI (k + 2 * (t.1.length : Int)) t.2.2)
def cTab (t : TabT) : Int := 2 * (t.1.length : Int) + cS cI t.2.2
theorem cTab_le {t : TabT} (hs : smallT t) : 0 ≤ cTab t ∧ cTab t ≤ 1099520000000 := by
  obtain ⟨s1, s2, s3⟩ := hs
  have hc := cS_small cI t.2.2 s2 (fun x hx => by have := s3 x hx; unfold cI; omega)
  unfold cTab
  omega
theorem markTab_eq {t : TabT} (hs : smallT t) (K : TabT → Int → Option R) : laws_markCombatTable_in 4194304 t 1 K = K (markTab 1 t) (1 + cTab t) := by
  obtain ⟨s1, s2, s3⟩ := hs
  have hc := cS_small cI t.2.2 s2 (fun x hx => by have := s3 x hx; unfold cI; omega)
  unfold laws_markCombatTable_in
  rw [markOddsS_k _ _ (by omega) (by omega) (by omega), markIntSS_k _ _ (by omega) (by omega) (by omega) (by omega) (fun x hx => by have := s3 x hx; omega)]
  unfold markTab cTab
  rw [show 1 + 2 * (t.1.length : Int) + (cS cI t.2.2 : Int) = 1 + (2 * (t.1.length : Int) + cS cI t.2.2) by omega]
/-! ### texts -/
def txtGo : Nat → Int → ByteArray → ByteArray
  | 0, _, o => o
  | f + 1, k, o => if 0 < k then txtGo f (Int.tdiv k 10) (bytesOfInts [IntKind.wrap .u8 (48 + Int.tmod k 10)] ++ o) else o
def txtM (k : Int) : ByteArray := if k ≤ 0 then (⟨#[109, 48]⟩ : ByteArray) else (⟨#[109]⟩ : ByteArray) ++ txtGo 20 k (⟨#[]⟩ : ByteArray)
theorem bytes1 (x : Int) : (bytesOfInts [x]).size = 1 := rfl
theorem txtGo_size : ∀ (f : Nat) (k : Int) (o : ByteArray), (txtGo f k o).size ≤ o.size + f
  | 0, _, o => by simp [txtGo]
  | f + 1, k, o => by
    unfold txtGo
    split
    · have := txtGo_size f (Int.tdiv k 10) (bytesOfInts [IntKind.wrap .u8 (48 + Int.tmod k 10)] ++ o)
      rw [ByteArray.size_append, bytes1] at this
      omega
    · omega
theorem markText_l0_eq {k : Nat} (K0 : ByteArray → Option R) : ∀ (f m : Nat) (n : Int) (o : ByteArray), 0 ≤ n → n < 10 ^ f → n ≤ 4000000000000000 → f < m → o.size + f ≤ 100 → laws_markText_l0 k K0 m n o = K0 (txtGo f n o)
  | 0, m + 1, n, o, h0, h1, hB, hm, ho => by
    have : n = 0 := by
      have : (10 : Int) ^ 0 = 1 := rfl
      omega
    subst this
    rw [laws_markText_l0]; rfl
  | f + 1, m + 1, n, o, h0, h1, hB, hm, ho => by
    rw [laws_markText_l0]
    unfold txtGo
    by_cases h : 0 < n
    · have ht : Int.tmod n 10 = n % 10 := Int.tmod_eq_emod_of_nonneg h0
      have hd : Int.tdiv n 10 = n / 10 := Int.tdiv_eq_ediv_of_nonneg h0
      have hp : (10 : Int) ^ (f + 1) = 10 * 10 ^ f := by rw [Int.pow_succ]; exact Int.mul_comm _ _
      rw [decide_eq_true h, if_pos h, cond_true, w64 (n := 48 + Int.tmod n 10) (by omega), w64 (n := Int.tdiv n 10) (by omega), bytes1, decide_eq_true (by unfold maxGrow; omega), cond_true]
      refine markText_l0_eq K0 f m _ _ (by omega) (by omega) (by omega) (by omega) ?_
      rw [ByteArray.size_append, bytes1]; omega
    · rw [decide_eq_false h, if_neg h]; rfl
theorem markText_eq {k : Nat} (hk : 21 < k) (n : Int) (h0 : 0 ≤ n) (hB : n ≤ 4000000000000000) (K : ByteArray → Option R) : laws_markText k n K = K (txtM n) := by
  unfold laws_markText txtM
  by_cases h : n ≤ 0
  · rw [decide_eq_true h, if_pos h]; rfl
  · have hs : (⟨#[]⟩ : ByteArray).size = 0 := rfl
    rw [decide_eq_false h, if_neg h, cond_false, markText_l0_eq _ 20 k n _ h0 (by have : (10 : Int) ^ 20 = 100000000000000000000 := by decide
                                                                                  omega) hB (by omega) (by rw [hs]; omega)]
    have h2 := txtGo_size 20 n (⟨#[]⟩ : ByteArray)
    have h3 : (⟨#[109]⟩ : ByteArray).size = 1 := rfl
    rw [decide_eq_true (by unfold maxGrow; rw [hs] at h2; rw [h3]; omega), cond_true]
/-! ### terrains and kinds -/
def fT (k : Int) (x : TerT) : TerT := (txtM k, mI (k + 1) x.2.1.length, k + 1 + x.2.1.length, k + 2 + x.2.1.length, decide (Int.tmod (k + 3 + x.2.1.length) 3 = 0))
def cT (x : TerT) : Nat := x.2.1.length + 4
def fK (k : Int) (x : KndT) : KndT := (txtM k, k + 1, k + 2, k + 3, decide (Int.tmod (k + 4) 3 = 0), k + 5)
def cK (x : KndT) : Nat := 6
theorem markTerrainS_k {k : Nat} (hk : 21 < k) (a : List TerT) (k0 : Int) (h0 : 0 ≤ k0) (hc : k0 + cS cT a ≤ 4000000000000000) (hl : a.length < k) (hb : a.length ≤ 137438953472) (hx : ∀ x ∈ a, x.2.1.length < k ∧ x.2.1.length ≤ 137438953472) (K : List TerT → Int → Option R) : laws_markTerrainS_in k a k0 K = K (fS fT cT k0 a) (k0 + (cS cT a : Int)) := by
  unfold laws_markTerrainS_in
  refine loop_mark fT cT (fun m k1 i s => laws_markTerrainS_in_l0 k (fun k_1 b => K b k_1) m k1 (i : Int) s) (fun k1 s => K s k1) (fun x => x.2.1.length < k ∧ x.2.1.length ≤ 137438953472) ?_ ?_ k [] a k0 hx h0 hc (by simpa using hb) hl
  · intro m k1 x pre r hx h0 h1 hl
    show laws_markTerrainS_in_l0 k _ (m + 1) k1 (pre.length : Int) (pre ++ x :: r) = laws_markTerrainS_in_l0 k _ m (k1 + (cT x : Nat)) ((pre.length + 1 : Nat) : Int) (pre ++ fT k1 x :: r)
    simp only [List.length_cons] at hl
    unfold cT at h1
    push_cast at h1
    have hB : k1 ≤ 4000000000000000 := by omega
    rw [laws_markTerrainS_in_l0, markText_eq hk k1 h0 hB, w64 (n := k1 + 1) (by omega)]
    simp only [toNatC, set_at', getD_at', len_at, lt_at, d0, cond_true, Bool.and_self]
    rw [markIntS_k x.2.1 (k1 + 1) ⟨by omega, by omega⟩ hx.1 hx.2]
    rw [w64 (n := k1 + 1 + (x.2.1.length : Int) + 1) (by omega), w64 (n := k1 + 1 + (x.2.1.length : Int) + 1 + 1) (by omega), w64 (n := k1 + 1 + (x.2.1.length : Int) + 1 + 1 + 1) (by omega), wsucc (by omega)]
    unfold fT cT
    push_cast
    rw [show k1 + 1 + (x.2.1.length : Int) + 1 + 1 + 1 = k1 + (x.2.1.length + 4) by omega, show k1 + 1 + (x.2.1.length : Int) + 1 + 1 = k1 + 3 + x.2.1.length by omega, show k1 + 1 + (x.2.1.length : Int) + 1 = k1 + 2 + x.2.1.length by omega]
    rw [show k1 + ((x.2.1.length : Int) + 1 + 1 + 1 + 1) = k1 + (x.2.1.length + 4) by omega]
  · intro m k1 s hs
    show laws_markTerrainS_in_l0 k _ (m + 1) k1 (s.length : Int) s = _
    rw [laws_markTerrainS_in_l0, dlt, decide_eq_false (by omega)]; rfl
theorem markKindS_k {k : Nat} (hk : 21 < k) (a : List KndT) (k0 : Int) (h0 : 0 ≤ k0) (hc : k0 + cS cK a ≤ 4000000000000000) (hl : a.length < k) (hb : a.length ≤ 137438953472) (K : List KndT → Int → Option R) : laws_markKindS_in k a k0 K = K (fS fK cK k0 a) (k0 + (cS cK a : Int)) := by
  unfold laws_markKindS_in
  refine loop_mark fK cK (fun m k1 i s => laws_markKindS_in_l0 k (fun k_1 b => K b k_1) m k1 (i : Int) s) (fun k1 s => K s k1) (fun x => True) ?_ ?_ k [] a k0 (fun _ _ => trivial) h0 hc (by simpa using hb) hl
  · intro m k1 x pre r hx h0 h1 hl
    show laws_markKindS_in_l0 k _ (m + 1) k1 (pre.length : Int) (pre ++ x :: r) = laws_markKindS_in_l0 k _ m (k1 + (cK x : Nat)) ((pre.length + 1 : Nat) : Int) (pre ++ fK k1 x :: r)
    simp only [List.length_cons] at hl
    unfold cK at h1
    push_cast at h1
    have hB : k1 ≤ 4000000000000000 := by omega
    rw [laws_markKindS_in_l0, markText_eq hk k1 h0 hB, w64 (n := k1 + 1) (by omega), w64 (n := k1 + 1 + 1) (by omega), w64 (n := k1 + 1 + 1 + 1) (by omega), w64 (n := k1 + 1 + 1 + 1 + 1) (by omega), w64 (n := k1 + 1 + 1 + 1 + 1 + 1) (by omega), w64 (n := k1 + 1 + 1 + 1 + 1 + 1 + 1) (by omega), wsucc (by omega)]
    simp only [toNatC, set_at', getD_at', len_at, lt_at, d0, cond_true, Bool.and_self]
    unfold fK cK
    push_cast
    rw [show k1 + 1 + 1 + 1 + 1 + 1 + 1 = k1 + 6 by omega, show k1 + 1 + 1 + 1 + 1 + 1 = k1 + 5 by omega, show k1 + 1 + 1 + 1 + 1 = k1 + 4 by omega, show k1 + 1 + 1 + 1 = k1 + 3 by omega, show k1 + 1 + 1 = k1 + 2 by omega]
  · intro m k1 s hs
    show laws_markKindS_in_l0 k _ (m + 1) k1 (s.length : Int) s = _
    rw [laws_markKindS_in_l0, dlt, decide_eq_false (by omega)]; rfl
/-! ### rules, maps, boards -/
def markR (k : Int) (r : RulT) : RulT := (fS fT cT k r.1, fS fK cK (k + cS cT r.1) r.2.1, r.2.2)
def cR (r : RulT) : Int := (cS cT r.1 : Int) + cS cK r.2.1
theorem cR_le {r : RulT} (hs : smallR r) : 0 ≤ cR r ∧ cR r ≤ 2199031644160 := by
  obtain ⟨s1, s2, s3, s4⟩ := hs
  have h1 := cS_small cT r.1 s1 (fun x hx => by have := (s3 x hx).2; unfold cT; omega)
  have h2 := cS_small cK r.2.1 s2 (fun x hx => by unfold cK; omega)
  unfold cR
  omega
theorem markRules_eq {r : RulT} (hs : smallR r) (k0 : Int) (h0 : 0 ≤ k0) (hB : k0 ≤ 1000000000000000) (K : RulT → Int → Option R) : laws_markRules_in 4194304 r k0 K = K (markR k0 r) (k0 + cR r) := by
  have hc := cR_le hs
  obtain ⟨s1, s2, s3, s4⟩ := hs
  have h1 := cS_small cT r.1 s1 (fun x hx => by have := (s3 x hx).2; unfold cT; omega)
  have h2 := cS_small cK r.2.1 s2 (fun x hx => by unfold cK; omega)
  unfold laws_markRules_in
  rw [markTerrainS_k (by omega) _ _ h0 (by omega) (by omega) (by omega) (fun x hx => by have := (s3 x hx).2; omega), markKindS_k (by omega) _ _ (by omega) (by omega) (by omega) (by omega)]
  unfold markR cR
  rw [show k0 + (cS cT r.1 : Int) + (cS cK r.2.1 : Int) = k0 + ((cS cT r.1 : Int) + cS cK r.2.1) by omega]
def markM (k : Int) (m : MapT) : MapT := (m.1, m.2.1, mI k m.2.2.1.length, mI (k + m.2.2.1.length) m.2.2.2.1.length, mI (k + m.2.2.1.length + m.2.2.2.1.length) m.2.2.2.2.length)
def cM (m : MapT) : Int := (m.2.2.1.length : Int) + m.2.2.2.1.length + m.2.2.2.2.length
theorem cM_le {m : MapT} (hs : small m) : 0 ≤ cM m ∧ cM m ≤ 3145728 := by
  obtain ⟨s1, s2, s3⟩ := hs
  unfold cM
  omega
theorem markMap_k {m : MapT} (hs : small m) (k0 : Int) (h0 : 0 ≤ k0) (hB : k0 ≤ 2000000000000000) (K : MapT → Int → Option R) : laws_markMap_in 4194304 m k0 K = K (markM k0 m) (k0 + cM m) := by
  obtain ⟨s1, s2, s3⟩ := hs
  unfold laws_markMap_in
  rw [markIntS_k _ _ ⟨h0, by omega⟩ (by omega) (by omega), markIntS_k _ _ ⟨by omega, by omega⟩ (by omega) (by omega), markIntS_k _ _ ⟨by omega, by omega⟩ (by omega) (by omega)]
  unfold markM cM
  rw [show k0 + (m.2.2.1.length : Int) + (m.2.2.2.1.length : Int) + (m.2.2.2.2.length : Int) = k0 + ((m.2.2.1.length : Int) + m.2.2.2.1.length + m.2.2.2.2.length) by omega]
def markB (k : Int) (b : BrdT) : BrdT := (markR k b.1, markM (k + cR b.1) b.2)
def cB (b : BrdT) : Int := cR b.1 + cM b.2
theorem cB_le {b : BrdT} (hs : smallB b) : 0 ≤ cB b ∧ cB b ≤ 2200000000000 := by
  have h1 := cR_le hs.1
  have h2 := cM_le hs.2
  unfold cB
  omega
theorem markBoard_eq {b : BrdT} (hs : smallB b) (K : BrdT → Int → Option R) : laws_markBoard_in 4194304 b 1 K = K (markB 1 b) (1 + cB b) := by
  have h1 := cR_le hs.1
  unfold laws_markBoard_in
  rw [markRules_eq hs.1 1 (by omega) (by omega), markMap_k hs.2 _ (by omega) (by omega)]
  unfold markB cB
  rw [show 1 + cR b.1 + cM b.2 = 1 + (cR b.1 + cM b.2) by omega]
  rfl
end
end Go.Lg
/- Counts of results; open hexes, unused terrains, stuck kinds: the laws. -/
set_option linter.unusedSimpArgs false
set_option linter.unusedVariables false
namespace Go.Lg
open Go Go.Ev
section
variable {R α σ ι : Type}
section
variable {t : TabT} {c : Int} (hg : goodT t = true) (h2 : 0 ≤ c) (h3 : c ≤ (t.1.length : Int) - 1)
include hg h2 h3
theorem iCounts_eq {k : Nat} (hq : t.2.2.length < k) (K : List Int → Option R) : impl_CountResults_l0 k K k c t.2.2 (t.2.2.length : Int) (0 : Int) t (List.replicate 8 (0 : Int)) = K (cnts t c t.2.2.length) := by
  obtain ⟨_, hd, hl, _, _⟩ := good_tab hg
  have h0 : cnts t c 0 = List.replicate 8 (0 : Int) := rfl
  rw [← h0]
  refine loop_det (fun m i s => impl_CountResults_l0 k K m c t.2.2 (t.2.2.length : Int) (i : Int) t s) t.2.2.length (cnts t c) (K (cnts t c t.2.2.length)) ?_ ?_ k 0 (Nat.zero_le _) (by omega)
  · intro m i hi
    show impl_CountResults_l0 k K (m + 1) c t.2.2 (t.2.2.length : Int) (i : Int) t (cnts t c i) = impl_CountResults_l0 k K m c t.2.2 (t.2.2.length : Int) ((i + 1 : Nat) : Int) t (cnts t c (i + 1))
    have hr := resI_le hg h2 h3 hi
    have hw := wI_le hg hi
    have hrow : (List.getD t.2.2 i []).length = t.1.length := by
      have := (row_len (i := (i : Int)) hg (by omega) (by omega)).1
      rwa [toNatC] at this
    have hcell : List.getD (List.getD t.2.2 i []) (Int.toNat c) 0 = resI t c i := by
      show _ = List.getD (List.getD t.2.2 (Int.toNat (i : Int)) []) (Int.toNat c) 0
      rw [toNatC]
    have hlen : (cnts t c i).length = 8 := by simp [cnts]
    have hb := cntR_le (c := c) hg (n := i) (by omega) (Int.toNat (resI t c i))
    have hget : List.getD (cnts t c i) (Int.toNat (resI t c i)) 0 = cntR t c i (Int.toNat (resI t c i)) := by
      rw [getD_lt (by rw [hlen]; omega)]
      simp [cnts]
    rw [impl_CountResults_l0, dlt, d0, decide_eq_true hi, toNatC, hrow, hcell, decide_eq_true h2, decide_eq_true (by omega : c < (t.1.length : Int)), hlen, decide_eq_true hr.1, decide_eq_true (by omega : resI t c i < ((8 : Nat) : Int)), waysFor_eq hd (by omega), wsucc (by omega), w64 (n := List.getD (cnts t c i) (Int.toNat (resI t c i)) 0 + wayI t.2.1 (i : Int)) (by
      have : wayI t.2.1 (i : Int) = wI t i := rfl
      rw [hget, this]; omega)]
    have hst := cnts_step hg h2 h3 hi
    have : wayI t.2.1 (i : Int) = wI t i := rfl
    rw [this, hst]
    rfl
  · intro m
    show impl_CountResults_l0 k K (m + 1) c t.2.2 (t.2.2.length : Int) (t.2.2.length : Int) t _ = _
    rw [impl_CountResults_l0, dlt, decide_eq_false (by omega)]; rfl
end
theorem Count_same {t : TabT} (hs : smallT t) (c : Int) : ∃ (v : List Int) (b : Bool), v.length ≤ 1048576 ∧ (∀ {R : Type} (K : List Int → Bool → Option R), spec_CountResults 4194304 t c K = K v b) ∧ ∀ {R : Type} (K : List Int → Bool → Option R), impl_CountResults 4194304 t c K = K v b := by
  have hs' := hs
  obtain ⟨s1, s2, s3⟩ := hs'
  cases hp : askB t c
  · exact ⟨[], false, by simp, fun K => by unfold spec_CountResults; rw [kAsked_eq hs, hp]; rfl, fun K => by unfold impl_CountResults; rw [isColumn_eq hs, hp]; rfl⟩
  · obtain ⟨hg, h1, h2⟩ := ask_le hp
    exact ⟨cnts t c t.2.2.length, true, by simp [cnts], fun K => by unfold spec_CountResults; rw [kAsked_eq hs, hp, Bool.not_true, cond_false, kCounts_eq hg h1 h2 (by omega)],
      fun K => by unfold impl_CountResults; rw [isColumn_eq hs, hp, Bool.not_true, cond_false]; exact iCounts_eq hg h1 h2 (by omega) _⟩
theorem law_FnExactCountResults (t : TabT) (w : Wf TabTy t) (c : Int) (w2 : Wf (.int .i64) c) (K : Bool → Option R) : laws_FnExactCountResults 4194304 t c K = K true := by
  unfold laws_FnExactCountResults
  rw [szT_eq (by omega) w _ inL0]
  rcases szT_ok t 1048576 inL0 with h | ⟨g1, g2, hs⟩
  · rw [h]; rfl
  · obtain ⟨v, b, hv, e1, e2⟩ := Count_same hs c
    have hc := cTab_le hs
    rw [decide_eq_false (by omega), cond_false, toTab_eq hs, e1, toTab_eq hs, e2, eqIntS_self _ (by omega) (by omega), toTab_eq hs, eqTab_self hs, markTab_eq hs, decide_eq_false (by omega : ¬ (1 + cTab t < 0)), eqIntS_self _ (by omega) (by omega), markIntS_eq _ _ (by omega) (by omega) (by omega), heldIntS_eq _ (by omega) (by omega), decide_eq_false (by omega), decide_eq_true rfl, toTab_eq hs, e2, eqIntS_self _ (by omega) (by omega), heldIntS_eq _ (by omega) (by omega), decide_eq_false (by omega), decide_eq_true rfl]
    simp
/-! ### open hexes -/
def openV (b : BrdT) (kind : Int) (n : Nat) : List Int := ((List.range n).filter fun (i : Nat) => decide (0 < costAt b kind (i : Int))).map fun (i : Nat) => (i : Int)
theorem openV_succ (b : BrdT) (kind : Int) (n : Nat) : openV b kind (n + 1) = if 0 < costAt b kind (n : Int) then openV b kind n ++ [(n : Int)] else openV b kind n := by
  unfold openV
  rw [List.range_succ, List.filter_append, List.map_append]
  by_cases h : 0 < costAt b kind (n : Int)
  · rw [if_pos h, List.filter_cons, if_pos (by simpa using h)]; rfl
  · rw [if_neg h, List.filter_cons, if_neg (by simpa using h)]; simp
theorem openV_len (b : BrdT) (kind : Int) (n : Nat) : (openV b kind n).length ≤ n := by
  unfold openV
  rw [List.length_map]
  exact Nat.le_trans (List.length_filter_le _ _) (by simp)
theorem openV_mem {b : BrdT} {kind : Int} {n : Nat} {x : Int} (h : x ∈ openV b kind n) : 0 ≤ x ∧ x < n ∧ 0 < costAt b kind x := by
  unfold openV at h
  obtain ⟨i, hi, rfl⟩ := List.mem_map.1 h
  obtain ⟨h1, h2⟩ := List.mem_filter.1 hi
  have := List.mem_range.1 h1
  exact ⟨by omega, by omega, by simpa using h2⟩
section
variable {b : BrdT} (hg : goodB b = true) {kind : Int} (hk : 0 ≤ kind ∧ kind < (b.1.2.1.length : Int))
include hg hk
theorem bOpen_eq {k : Nat} (hq : 200 < k) (K : List Int → Option R) : spec_bOpen k b kind K = K (openV b kind b.2.2.2.1.length) := by
  obtain ⟨h1, h2, h3⟩ := area_ok hg
  unfold spec_bOpen
  refine loop_det (fun m i s => spec_bOpen_l0 k (fun x => K x) m kind (b.2.2.2.1.length : Int) (i : Int) b s) b.2.2.2.1.length (openV b kind) (K (openV b kind b.2.2.2.1.length)) ?_ ?_ k 0 (Nat.zero_le _) (by omega)
  · intro m i hi
    have hl := openV_len b kind i
    show spec_bOpen_l0 k _ (m + 1) kind _ (i : Int) b (openV b kind i) = spec_bOpen_l0 k _ m kind _ ((i + 1 : Nat) : Int) b (openV b kind (i + 1))
    rw [spec_bOpen_l0, dlt, decide_eq_true hi, cond_true, bCost_eq hg (by omega) hk, wsucc (by omega), openV_succ]
    by_cases h : 0 < costAt b kind (i : Int)
    · rw [decide_eq_true h, if_pos h, decide_eq_true (by unfold maxGrow; simp; omega)]; rfl
    · rw [decide_eq_false h, if_neg h]; rfl
  · intro m
    show spec_bOpen_l0 k _ (m + 1) kind _ (b.2.2.2.1.length : Int) b _ = _
    rw [spec_bOpen_l0, dlt, decide_eq_false (by omega)]; rfl
theorem openHexes_eq {k : Nat} (hq : 200 < k) (K : List Int → Option R) : impl_openHexes k b kind K = K (openV b kind b.2.2.2.1.length) := by
  obtain ⟨h1, h2, h3⟩ := area_ok hg
  unfold impl_openHexes
  refine loop_det (fun m i s => impl_openHexes_l0 k (fun x => K x) m kind (b.2.2.2.1.length : Int) (i : Int) b s) b.2.2.2.1.length (openV b kind) (K (openV b kind b.2.2.2.1.length)) ?_ ?_ k 0 (Nat.zero_le _) (by omega)
  · intro m i hi
    have hl := openV_len b kind i
    have hc := costAt_ok hg (i := (i : Int)) (by omega) hk
    show impl_openHexes_l0 k _ (m + 1) kind _ (i : Int) b (openV b kind i) = impl_openHexes_l0 k _ m kind _ ((i + 1 : Nat) : Int) b (openV b kind (i + 1))
    rw [impl_openHexes_l0, dlt, decide_eq_true hi, cond_true, enterCost_eq hg (by omega) hk, wsucc (by omega), openV_succ]
    by_cases h : 0 < costAt b kind (i : Int)
    · rw [decide_eq_false (by omega), if_pos h, decide_eq_true (by unfold maxGrow; simp; omega)]; rfl
    · rw [decide_eq_true (by omega), if_neg h]; rfl
  · intro m
    show impl_openHexes_l0 k _ (m + 1) kind _ (b.2.2.2.1.length : Int) b _ = _
    rw [impl_openHexes_l0, dlt, decide_eq_false (by omega)]; rfl
end
theorem bAtB_0 {b : BrdT} {kind : Int} : bAtB b kind 0 = kindB b kind := by
  unfold bAtB kindB
  cases hg : goodB b
  · rfl
  · obtain ⟨h1, h2, h3⟩ := area_ok hg
    have : inB 0 0 (area b - 1) = true := inB_iff.2 (by omega)
    rw [this, Bool.and_true]
theorem kindB_iff {b : BrdT} {kind : Int} (h : kindB b kind = true) : goodB b = true ∧ 0 ≤ kind ∧ kind < (b.1.2.1.length : Int) := by
  unfold kindB at h
  simp only [Bool.and_eq_true, inB_iff] at h
  exact ⟨h.1, by omega, by omega⟩
theorem Open_same {b : BrdT} (hs : smallB b) (kind : Int) : ∃ (v : List Int) (c : Bool), v.length ≤ 1048576 ∧ (∀ {R : Type} (K : List Int → Bool → Option R), spec_OpenHexes 4194304 b kind K = K v c) ∧ ∀ {R : Type} (K : List Int → Bool → Option R), impl_OpenHexes 4194304 b kind K = K v c := by
  cases hp : kindB b kind
  · exact ⟨[], false, by simp, fun K => by unfold spec_OpenHexes; rw [bAt_eq hs, bAtB_0, hp]; rfl, fun K => by unfold impl_OpenHexes; rw [isKindOf_eq hs, hp]; rfl⟩
  · obtain ⟨hg, hk⟩ := kindB_iff hp
    obtain ⟨h1, h2, h3⟩ := area_ok hg
    have hl := openV_len b kind b.2.2.2.1.length
    exact ⟨openV b kind b.2.2.2.1.length, true, by omega, fun K => by unfold spec_OpenHexes; rw [bAt_eq hs, bAtB_0, hp, Bool.not_true, cond_false, bOpen_eq hg hk (by omega)],
      fun K => by unfold impl_OpenHexes; rw [isKindOf_eq hs, hp, Bool.not_true, cond_false, openHexes_eq hg hk (by omega)]⟩
theorem law_FnExactOpenHexes (b : BrdT) (w : Wf BrdTy b) (kind : Int) (w2 : Wf (.int .i64) kind) (K : Bool → Option R) : laws_FnExactOpenHexes 4194304 b kind K = K true := by
  unfold laws_FnExactOpenHexes
  obtain ⟨r, e0, h⟩ := szBoard_ret w
  rw [e0]
  rcases h with rfl | ⟨hl, hs⟩
  · rfl
  · obtain ⟨v, c, hv, e1, e2⟩ := Open_same hs kind
    have hc := cB_le hs
    rw [decide_eq_false (by have := hl.1; omega), cond_false, toBrd_eq hs, e1, toBrd_eq hs, e2, eqIntS_self _ (by omega) (by omega), toBrd_eq hs, eqBrd_self hs, markBoard_eq hs, decide_eq_false (by omega : ¬ (1 + cB b < 0)), eqIntS_self _ (by omega) (by omega), markIntS_eq _ _ (by omega) (by omega) (by omega), heldIntS_eq _ (by omega) (by omega), decide_eq_false (by omega), decide_eq_true rfl, toBrd_eq hs, e2, eqIntS_self _ (by omega) (by omega), heldIntS_eq _ (by omega) (by omega), decide_eq_false (by omega), decide_eq_true rfl]
    simp
/-! ### unused terrains -/
def unusedV (b : BrdT) (n : Nat) : List Int := ((List.range n).filter fun (i : Nat) => b.2.2.2.1.all fun x => !decide (x = (i : Int))).map fun (i : Nat) => (i : Int)
theorem unusedV_succ (b : BrdT) (n : Nat) : unusedV b (n + 1) = if (b.2.2.2.1.all fun x => !decide (x = (n : Int))) = true then unusedV b n ++ [(n : Int)] else unusedV b n := by
  unfold unusedV
  rw [List.range_succ, List.filter_append, List.map_append, List.filter_cons]
  split
  · rfl
  · simp
theorem unusedV_len (b : BrdT) (n : Nat) : (unusedV b n).length ≤ n := by
  unfold unusedV
  rw [List.length_map]
  exact Nat.le_trans (List.length_filter_le _ _) (by simp)
theorem Unused_same {b : BrdT} (hs : smallB b) : ∃ (v : List Int) (c : Bool), v.length ≤ 1048576 ∧ (∀ {R : Type} (K : List Int → Bool → Option R), spec_UnusedTerrains 4194304 b K = K v c) ∧ ∀ {R : Type} (K : List Int → Bool → Option R), impl_UnusedTerrains 4194304 b K = K v c := by
  cases hp : goodB b
  · exact ⟨[], false, by simp, fun K => by unfold spec_UnusedTerrains; rw [bGood_eq hs, hp]; rfl, fun K => by unfold impl_UnusedTerrains; rw [IsBoard_eq hs, hp]; rfl⟩
  · obtain ⟨h1, h2, h3⟩ := area_ok hp
    obtain ⟨⟨_, h4⟩, _⟩ := good_rul (good_brd hp).1
    have hl := unusedV_len b b.1.1.length
    refine ⟨unusedV b b.1.1.length, true, by omega, fun K => ?_, fun K => ?_⟩
    · unfold spec_UnusedTerrains
      rw [bGood_eq hs, hp, Bool.not_true, cond_false]
      generalize hk : (4194304 : Nat) = k
      refine loop_det (fun m i s => spec_UnusedTerrains_l0 k (fun x => K x true) m (b.1.1.length : Int) (i : Int) b s) b.1.1.length (unusedV b) (K (unusedV b b.1.1.length) true) ?_ ?_ k 0 (Nat.zero_le _) (by omega)
      · intro m i hi
        have hl := unusedV_len b i
        show spec_UnusedTerrains_l0 k _ (m + 1) _ (i : Int) b (unusedV b i) = spec_UnusedTerrains_l0 k _ m _ ((i + 1 : Nat) : Int) b (unusedV b (i + 1))
        rw [spec_UnusedTerrains_l0, dlt, decide_eq_true hi, cond_true, l1Has_eq _ _ (by omega) (by omega), wsucc (by omega), unusedV_succ, Bool.not_not, decide_eq_true (by unfold maxGrow; simp; omega)]
        cases h : (b.2.2.2.1.all fun x => !decide (x = (i : Int))) <;> rfl
      · intro m
        show spec_UnusedTerrains_l0 k _ (m + 1) _ (b.1.1.length : Int) b _ = _
        rw [spec_UnusedTerrains_l0, dlt, decide_eq_false (by omega)]; rfl
    · unfold impl_UnusedTerrains
      rw [IsBoard_eq hs, hp, Bool.not_true, cond_false]
      generalize hk : (4194304 : Nat) = k
      refine loop_det (fun m i s => impl_UnusedTerrains_l0 k (fun x => K x true) m (b.1.1.length : Int) (i : Int) b s) b.1.1.length (unusedV b) (K (unusedV b b.1.1.length) true) ?_ ?_ k 0 (Nat.zero_le _) (by omega)
      · intro m i hi
        have hl := unusedV_len b i
        show impl_UnusedTerrains_l0 k _ (m + 1) _ (i : Int) b (unusedV b i) = impl_UnusedTerrains_l0 k _ m _ ((i + 1 : Nat) : Int) b (unusedV b (i + 1))
        rw [impl_UnusedTerrains_l0, dlt, decide_eq_true hi, cond_true, Contains_eq _ _ (by omega) (by omega), wsucc (by omega), unusedV_succ, Bool.not_not, decide_eq_true (by unfold maxGrow; simp; omega)]
        cases h : (b.2.2.2.1.all fun x => !decide (x = (i : Int))) <;> rfl
      · intro m
        show impl_UnusedTerrains_l0 k _ (m + 1) _ (b.1.1.length : Int) b _ = _
        rw [impl_UnusedTerrains_l0, dlt, decide_eq_false (by omega)]; rfl
theorem law_FnExactUnusedTerrains (b : BrdT) (w : Wf BrdTy b) (K : Bool → Option R) : laws_FnExactUnusedTerrains 4194304 b K = K true := by
  unfold laws_FnExactUnusedTerrains
  obtain ⟨r, e0, h⟩ := szBoard_ret w
  rw [e0]
  rcases h with rfl | ⟨hl, hs⟩
  · rfl
  · obtain ⟨v, c, hv, e1, e2⟩ := Unused_same hs
    have hc := cB_le hs
    rw [decide_eq_false (by have := hl.1; omega), cond_false, toBrd_eq hs, e1, toBrd_eq hs, e2, eqIntS_self _ (by omega) (by omega), toBrd_eq hs, eqBrd_self hs, markBoard_eq hs, decide_eq_false (by omega : ¬ (1 + cB b < 0)), eqIntS_self _ (by omega) (by omega), markIntS_eq _ _ (by omega) (by omega) (by omega), heldIntS_eq _ (by omega) (by omega), decide_eq_false (by omega), decide_eq_true rfl, toBrd_eq hs, e2, eqIntS_self _ (by omega) (by omega), heldIntS_eq _ (by omega) (by omega), decide_eq_false (by omega), decide_eq_true rfl]
    simp
end
end Go.Lg
