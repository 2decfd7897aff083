/- Lines: the law. -/
import Derived.Test.YtpaikmmncnigkaaLgBLBMCLCMCOFLFMFNFOFPHLHMHN
set_option linter.unusedVariables false
set_option linter.unusedSimpArgs false
set_option linter.unusedSectionVars false
set_option linter.unusedSimpArgs false
set_option linter.unusedVariables false
namespace Go.Lg
open Go Go.Ev
section
variable {R α σ ι : Type}
def nearL (f g n : Int) : List Int := if 2 * g < n then [f] else if n < 2 * g then [f + 1] else [f, f + 1]
theorem nearL_len (f g n : Int) : (nearL f g n).length ≤ 2 := by
  unfold nearL
  split
  · simp
  · split <;> simp
theorem any_nk (n g : Int) : nk n g 1 = true ∨ nk n g 2 = true := by
  unfold nk
  by_cases h : 2 * g ≤ n
  · left; simp [h]
  · right; simp; omega
theorem nk0 (n g : Int) : nk n g 0 = false := rfl
theorem nk3 (n g : Int) : nk n g 3 = false := rfl
theorem nearF_A {q r n : Int} (hn : 0 < n) (hq : q % n = 0) : (nearF q r n).2 = (nearL (r / n) (r % n) n).map fun y => (q / n, y) := by
  have h0 : 0 ≤ r % n := Int.emod_nonneg _ (by omega)
  have h1 : r % n < n := Int.emod_lt_of_pos _ hn
  unfold nearF
  rw [hq, fold_min _ _ (mk_ n (r % n)) (mk_nn _ _) (fun p : Nat × Nat => Nat.beq p.1 1 && nk n (r % n) p.2) W16 (fun p hp => (near_A hn h0 h1 p (W16_lt p hp)).1) (fun p hp => (near_A hn h0 h1 p (W16_lt p hp)).2) ?_ _ (.inl (by decide))]
  · show (List.filter (fun p : Nat × Nat => Nat.beq p.1 1 && nk n (r % n) p.2) W16).map _ = _
    by_cases h2 : 2 * (r % n) < n
    · have e1 : nk n (r % n) 1 = true := by unfold nk; simp; omega
      have e2 : nk n (r % n) 2 = false := by unfold nk; simp; omega
      have : List.filter (fun p : Nat × Nat => Nat.beq p.1 1 && nk n (r % n) p.2) W16 = [(1, 1)] := by simp [W16, e1, e2, nk0, nk3]
      rw [this]
      unfold nearL
      rw [if_pos h2]
      simp
    · by_cases h3 : n < 2 * (r % n)
      · have e1 : nk n (r % n) 1 = false := by unfold nk; simp; omega
        have e2 : nk n (r % n) 2 = true := by unfold nk; simp; omega
        have : List.filter (fun p : Nat × Nat => Nat.beq p.1 1 && nk n (r % n) p.2) W16 = [(1, 2)] := by simp [W16, e1, e2, nk0, nk3]
        rw [this]
        unfold nearL
        rw [if_neg h2, if_pos h3]
        simp
        omega
      · have e1 : nk n (r % n) 1 = true := by unfold nk; simp; omega
        have e2 : nk n (r % n) 2 = true := by unfold nk; simp; omega
        have : List.filter (fun p : Nat × Nat => Nat.beq p.1 1 && nk n (r % n) p.2) W16 = [(1, 1), (1, 2)] := by simp [W16, e1, e2, nk0, nk3]
        rw [this]
        unfold nearL
        rw [if_neg h2, if_neg h3]
        simp
        omega
  · rcases any_nk n (r % n) with h | h
    · exact List.any_eq_true.2 ⟨(1, 1), by decide, by simp [h]⟩
    · exact List.any_eq_true.2 ⟨(1, 2), by decide, by simp [h]⟩
theorem nearF_B {q r n : Int} (hn : 0 < n) (hr : r % n = 0) : (nearF q r n).2 = (nearL (q / n) (q % n) n).map fun x => (x, r / n) := by
  have h0 : 0 ≤ q % n := Int.emod_nonneg _ (by omega)
  have h1 : q % n < n := Int.emod_lt_of_pos _ hn
  unfold nearF
  rw [hr, fold_min _ _ (mk_ n (q % n)) (mk_nn _ _) (fun p : Nat × Nat => Nat.beq p.2 1 && nk n (q % n) p.1) W16 (fun p hp => (near_B hn h0 h1 p (W16_lt p hp)).1) (fun p hp => (near_B hn h0 h1 p (W16_lt p hp)).2) ?_ _ (.inl (by decide))]
  · show (List.filter (fun p : Nat × Nat => Nat.beq p.2 1 && nk n (q % n) p.1) W16).map _ = _
    by_cases h2 : 2 * (q % n) < n
    · have e1 : nk n (q % n) 1 = true := by unfold nk; simp; omega
      have e2 : nk n (q % n) 2 = false := by unfold nk; simp; omega
      have : List.filter (fun p : Nat × Nat => Nat.beq p.2 1 && nk n (q % n) p.1) W16 = [(1, 1)] := by simp [W16, e1, e2, nk0, nk3]
      rw [this]
      unfold nearL
      rw [if_pos h2]
      simp
    · by_cases h3 : n < 2 * (q % n)
      · have e1 : nk n (q % n) 1 = false := by unfold nk; simp; omega
        have e2 : nk n (q % n) 2 = true := by unfold nk; simp; omega
        have : List.filter (fun p : Nat × Nat => Nat.beq p.2 1 && nk n (q % n) p.1) W16 = [(2, 1)] := by simp [W16, e1, e2, nk0, nk3]
        rw [this]
        unfold nearL
        rw [if_neg h2, if_pos h3]
        simp
        omega
      · have e1 : nk n (q % n) 1 = true := by unfold nk; simp; omega
        have e2 : nk n (q % n) 2 = true := by unfold nk; simp; omega
        have : List.filter (fun p : Nat × Nat => Nat.beq p.2 1 && nk n (q % n) p.1) W16 = [(1, 1), (2, 1)] := by simp [W16, e1, e2, nk0, nk3]
        rw [this]
        unfold nearL
        rw [if_neg h2, if_neg h3]
        simp
        omega
  · rcases any_nk n (q % n) with h | h
    · exact List.any_eq_true.2 ⟨(1, 1), by decide, by simp [h]⟩
    · exact List.any_eq_true.2 ⟨(2, 1), by decide, by simp [h]⟩
theorem nearF_C {q r n : Int} (hn : 0 < n) (hq : q % n ≠ 0) (hs : q % n + r % n = n) : (nearF q r n).2 = (nearL (q / n) (q % n) n).map fun x => (x, q / n + r / n + 1 - x) := by
  have h00 : 0 ≤ q % n := Int.emod_nonneg _ (by omega)
  have h0 : 0 < q % n := by omega
  have h1 : q % n < n := Int.emod_lt_of_pos _ hn
  have er : r % n = n - q % n := by omega
  unfold nearF
  rw [er, fold_min _ _ (mk_ n (q % n)) (mk_nn _ _) (fun p : Nat × Nat => Nat.beq (p.1 + p.2) 3 && nk n (q % n) p.1) W16 (fun p hp => (near_C hn h0 h1 p (W16_lt p hp)).1) (fun p hp => (near_C hn h0 h1 p (W16_lt p hp)).2) ?_ _ (.inl (by decide))]
  · show (List.filter (fun p : Nat × Nat => Nat.beq (p.1 + p.2) 3 && nk n (q % n) p.1) W16).map _ = _
    by_cases h2 : 2 * (q % n) < n
    · have e1 : nk n (q % n) 1 = true := by unfold nk; simp; omega
      have e2 : nk n (q % n) 2 = false := by unfold nk; simp; omega
      have : List.filter (fun p : Nat × Nat => Nat.beq (p.1 + p.2) 3 && nk n (q % n) p.1) W16 = [(1, 2)] := by simp [W16, e1, e2, nk0, nk3]
      rw [this]
      unfold nearL
      rw [if_pos h2]
      simp
      omega
    · by_cases h3 : n < 2 * (q % n)
      · have e1 : nk n (q % n) 1 = false := by unfold nk; simp; omega
        have e2 : nk n (q % n) 2 = true := by unfold nk; simp; omega
        have : List.filter (fun p : Nat × Nat => Nat.beq (p.1 + p.2) 3 && nk n (q % n) p.1) W16 = [(2, 1)] := by simp [W16, e1, e2, nk0, nk3]
        rw [this]
        unfold nearL
        rw [if_neg h2, if_pos h3]
        simp
        omega
      · have e1 : nk n (q % n) 1 = true := by unfold nk; simp; omega
        have e2 : nk n (q % n) 2 = true := by unfold nk; simp; omega
        have : List.filter (fun p : Nat × Nat => Nat.beq (p.1 + p.2) 3 && nk n (q % n) p.1) W16 = [(1, 2), (2, 1)] := by simp [W16, e1, e2, nk0, nk3]
        rw [this]
        unfold nearL
        rw [if_neg h2, if_neg h3]
        simp
        omega
  · rcases any_nk n (q % n) with h | h
    · exact List.any_eq_true.2 ⟨(1, 2), by decide, by simp [h]⟩
    · exact List.any_eq_true.2 ⟨(2, 1), by decide, by simp [h]⟩
/-- What is near lies between. -/
theorem nearL_in {f g n v : Int} (hn : 0 < n) (h0 : 0 ≤ g) (h1 : g < n) (hb : -(40 * n) ≤ n * f + g ∧ n * f + g ≤ 40 * n) (hv : v ∈ nearL f g n) : (-40 ≤ v ∧ v ≤ 40) ∧ (v = f ∨ (v = f + 1 ∧ 0 < g)) ∧ -40 ≤ f ∧ f ≤ 40 ∧ (0 < g → f ≤ 39) := by
  have f1 : -40 ≤ f := by
    rcases Int.lt_or_le f (-40) with h | h
    · have : n * f ≤ n * (-41) := Int.mul_le_mul_of_nonneg_left (by omega) (by omega)
      omega
    · exact h
  have f2 : f ≤ 40 := by
    rcases Int.lt_or_le 40 f with h | h
    · have : n * 41 ≤ n * f := Int.mul_le_mul_of_nonneg_left (by omega) (by omega)
      omega
    · exact h
  have f3 : 0 < g → f ≤ 39 := by
    intro hg
    rcases Int.lt_or_le 39 f with h | h
    · have e : f = 40 := by omega
      subst e
      omega
    · exact h
  have hv2 : v = f ∨ (v = f + 1 ∧ 0 < g) := by
    unfold nearL at hv
    split at hv
    · left; simpa using hv
    · split at hv
      · right; exact ⟨by simpa using hv, by omega⟩
      · rcases List.mem_cons.1 hv with hv | hv
        · exact .inl hv
        · right; exact ⟨by simpa using hv, by omega⟩
  refine ⟨?_, hv2, f1, f2, f3⟩
  rcases hv2 with hv2 | ⟨hv2, hg⟩
  · omega
  · have := f3 hg; omega
theorem hNear_eq {r n : Int} (hn : 0 < n ∧ n ≤ 1000) (hr : -100000 ≤ r ∧ r ≤ 100000) (K : List Int → Option R) : spec_hNear r n K = K (nearL (r / n) (r % n) n) := by
  have ht := tdiv_small hn hr
  have hd := ediv_small hn hr
  have h0 : 0 ≤ r % n := Int.emod_nonneg _ (by omega)
  have h1 : r % n < n := Int.emod_lt_of_pos _ hn.1
  have hm := Int.mul_ediv_add_emod r n
  have hfe := floor_eq (a := r) hn.1
  have hmb := mulB (a := r / n) (b := n) (B := 200000) ⟨by omega, by omega⟩ ⟨by omega, by omega⟩
  have hmc : r / n * n = r - r % n := by rw [Int.mul_comm]; omega
  have core : ∀ f : Int, f = r / n → (bif decide (IntKind.wrap .i64 ((2 : Int) * (IntKind.wrap .i64 (r - (IntKind.wrap .i64 (f * n))))) < n) then K [f] else
        bif decide (n < IntKind.wrap .i64 ((2 : Int) * (IntKind.wrap .i64 (r - (IntKind.wrap .i64 (f * n)))))) then K [IntKind.wrap .i64 (f + (1 : Int))] else K [f, IntKind.wrap .i64 (f + (1 : Int))]) = K (nearL (r / n) (r % n) n) := by
    rintro f rfl
    rw [hmc, w64 (n := r - r % n) (by omega), show r - (r - r % n) = r % n by omega, w64 (n := r % n) (by omega), w64 (n := 2 * (r % n)) (by omega), w64 (n := r / n + 1) (by omega)]
    unfold nearL
    by_cases h2 : 2 * (r % n) < n
    · rw [decide_eq_true h2, if_pos h2]; rfl
    · rw [decide_eq_false h2, if_neg h2]
      by_cases h3 : n < 2 * (r % n)
      · rw [decide_eq_true h3, if_pos h3]; rfl
      · rw [decide_eq_false h3, if_neg h3]; rfl
  unfold spec_hNear
  rw [decide_eq_false (by omega : ¬ n = 0), Bool.not_false, cond_true, cond_true, w64 (n := Int.tdiv r n) (by omega), w64 (n := Int.tdiv r n - 1) (by omega)]
  by_cases h : Int.tmod r n < 0
  · rw [if_pos h] at hfe
    rw [decide_eq_true h, cond_true]
    exact core _ hfe
  · rw [if_neg h] at hfe
    rw [decide_eq_false h, cond_false]
    exact core _ hfe
end
end Go.Lg
/- Lines: the law, joined. -/
set_option linter.unusedSimpArgs false
set_option linter.unusedVariables false
namespace Go.Lg
open Go Go.Ev
section
variable {R α σ ι : Type}
theorem hCells_l0_eq {k : Nat} {n Q : Int} (hn : 0 < n) (l : List Int) (hl : l.length ≤ 2) (hk : 3 < k) (hq : -1000000 ≤ Int.tdiv Q n ∧ Int.tdiv Q n ≤ 1000000) (K : List (Int × Int) → Option R) : spec_hCells_l0 k K k n Q l (l.length : Int) (0 : Int) [] = K (l.map fun y => (Int.tdiv Q n, y)) := by
  have := loop_det (fun m i (s : List (Int × Int)) => spec_hCells_l0 k K m n Q l (l.length : Int) (i : Int) s) l.length (fun i => (l.take i).map fun y => (Int.tdiv Q n, y)) (K (l.map fun y => (Int.tdiv Q n, y))) ?_ ?_ k 0 (Nat.zero_le _) (by omega)
  · simpa using this
  · intro m i hi
    show spec_hCells_l0 k K (m + 1) n Q l (l.length : Int) (i : Int) _ = spec_hCells_l0 k K m n Q l (l.length : Int) ((i + 1 : Nat) : Int) _
    rw [spec_hCells_l0, dlt, d0, decide_eq_true hi, toNatC, getD_lt hi, wsucc (by omega), decide_eq_false (by omega : ¬ n = 0), w64 (n := Int.tdiv Q n) (by omega), decide_eq_true (by unfold maxGrow; simp; omega), List.take_succ_eq_append_getElem hi, List.map_append]
    rfl
  · intro m
    show spec_hCells_l0 k K (m + 1) n Q l (l.length : Int) (l.length : Int) _ = _
    rw [spec_hCells_l0, dlt, decide_eq_false (by omega), List.take_length]; rfl
theorem hCells_l1_eq {k : Nat} {n Q T : Int} (hn : 0 < n) (l : List Int) (hl : l.length ≤ 2) (hk : 3 < k) (hT : -100000 ≤ T ∧ T ≤ 100000) (hQ : -100000 ≤ Q ∧ Q ≤ 100000) (hq : -1000000 ≤ Int.tdiv T n ∧ Int.tdiv T n ≤ 1000000) (hs : -1000000 ≤ Int.tdiv (Q + T) n ∧ Int.tdiv (Q + T) n ≤ 1000000) (hx : ∀ x ∈ l, -1000000 ≤ x ∧ x ≤ 1000000) (K : List (Int × Int) → Option R) :
    spec_hCells_l1 k K k n Q T l (l.length : Int) (0 : Int) [] = K (l.map fun x => (x, if Int.tmod T n = 0 then Int.tdiv T n else Int.tdiv (Q + T) n - x)) := by
  have := loop_det (fun m i (s : List (Int × Int)) => spec_hCells_l1 k K m n Q T l (l.length : Int) (i : Int) s) l.length (fun i => (l.take i).map fun x => (x, if Int.tmod T n = 0 then Int.tdiv T n else Int.tdiv (Q + T) n - x)) (K (l.map fun x => (x, if Int.tmod T n = 0 then Int.tdiv T n else Int.tdiv (Q + T) n - x))) ?_ ?_ k 0 (Nat.zero_le _) (by omega)
  · simpa using this
  · intro m i hi
    have hxi := hx l[i] (List.getElem_mem hi)
    show spec_hCells_l1 k K (m + 1) n Q T l (l.length : Int) (i : Int) _ = spec_hCells_l1 k K m n Q T l (l.length : Int) ((i + 1 : Nat) : Int) _
    rw [spec_hCells_l1, dlt, d0, decide_eq_true hi, toNatC, getD_lt hi, wsucc (by omega), decide_eq_false (by omega : ¬ n = 0), w64 (n := Int.tdiv T n) (by omega), w64 (n := Q + T) (by omega), w64 (n := Int.tdiv (Q + T) n) (by omega), w64 (n := Int.tdiv (Q + T) n - l[i]) (by omega), List.take_succ_eq_append_getElem hi, List.map_append]
    by_cases h : Int.tmod T n = 0
    · rw [decide_eq_true h]
      simp only [h, if_true, Bool.not_false, Bool.and_self, cond_true]
      rw [decide_eq_true (by unfold maxGrow; simp; omega)]
      rfl
    · rw [decide_eq_false h]
      simp only [h, if_false, Bool.not_false, Bool.and_self, cond_true, cond_false]
      rw [decide_eq_true (by unfold maxGrow; simp; omega)]
      rfl
  · intro m
    show spec_hCells_l1 k K (m + 1) n Q T l (l.length : Int) (l.length : Int) _ = _
    rw [spec_hCells_l1, dlt, decide_eq_false (by omega), List.take_length]; rfl
theorem tmod_emod {a n : Int} (hn : 0 < n) : (Int.tmod a n = 0 ↔ a % n = 0) ∧ (a % n = 0 → Int.tdiv a n = a / n) := by
  have h1 := Int.mul_tdiv_add_tmod a n
  have h2 := floor_eq (a := a) hn
  have h3 := Int.mul_ediv_add_emod a n
  have h4 : 0 ≤ a % n := Int.emod_nonneg _ (by omega)
  have h5 : a % n < n := Int.emod_lt_of_pos _ hn
  by_cases h : Int.tmod a n < 0
  · rw [if_pos h] at h2
    have e : n * (a / n) = n * Int.tdiv a n - n := by rw [← h2]; grind
    have hb : -n < Int.tmod a n := by
      have := Int.tmod_lt_of_pos (-a) hn
      rw [Int.neg_tmod] at this
      omega
    exact ⟨⟨fun h' => by omega, fun h' => by omega⟩, fun h' => by omega⟩
  · rw [if_neg h] at h2
    rw [h2] at h1
    exact ⟨⟨fun h' => by omega, fun h' => by omega⟩, fun _ => h2⟩
/-- A point of a line: one of its three coordinates is whole. -/
theorem whole3 {a b : Int × Int} {n i : Int} (hn : 0 < n) (e : n = dist a b) : (a.1 * n + i * (b.1 - a.1)) % n = 0 ∨ (a.2 * n + i * (b.2 - a.2)) % n = 0 ∨ ((a.1 * n + i * (b.1 - a.1)) % n + (a.2 * n + i * (b.2 - a.2)) % n = n) := by
  have hz : ∀ z c : Int, z = n * c → z % n = 0 := fun z c h => by rw [h]; exact Int.mul_emod_right n c
  have key : (n = b.1 - a.1 ∨ n = -(b.1 - a.1)) ∨ (n = b.2 - a.2 ∨ n = -(b.2 - a.2)) ∨ (n = (b.1 - a.1) + (b.2 - a.2) ∨ n = -((b.1 - a.1) + (b.2 - a.2))) := by
    unfold dist at e
    split at e <;> split at e <;> split at e <;> omega
  rcases key with (h | h) | (h | h) | (h | h)
  · left; refine hz _ (a.1 + i) ?_; rw [← h]; grind
  · left; refine hz _ (a.1 - i) ?_; rw [show b.1 - a.1 = -n by omega]; grind
  · right; left; refine hz _ (a.2 + i) ?_; rw [← h]; grind
  · right; left; refine hz _ (a.2 - i) ?_; rw [show b.2 - a.2 = -n by omega]; grind
  all_goals
    by_cases hq : (a.1 * n + i * (b.1 - a.1)) % n = 0
    · exact .inl hq
    · by_cases hr : (a.2 * n + i * (b.2 - a.2)) % n = 0
      · exact .inr (.inl hr)
      · right; right
        have h1 := Int.emod_nonneg (a.1 * n + i * (b.1 - a.1)) (show n ≠ 0 by omega)
        have h2 := Int.emod_nonneg (a.2 * n + i * (b.2 - a.2)) (show n ≠ 0 by omega)
        have h3 := Int.emod_lt_of_pos (a.1 * n + i * (b.1 - a.1)) hn
        have h4 := Int.emod_lt_of_pos (a.2 * n + i * (b.2 - a.2)) hn
        have h5 : ((a.1 * n + i * (b.1 - a.1)) + (a.2 * n + i * (b.2 - a.2))) % n = 0 := by
          first
          | (refine hz _ (a.1 + a.2 + i) ?_
             have : (b.1 - a.1) + (b.2 - a.2) = n := by omega
             grind)
          | (refine hz _ (a.1 + a.2 - i) ?_
             have : (b.1 - a.1) + (b.2 - a.2) = -n := by omega
             grind)
        rw [Int.add_emod] at h5
        have h6 : ((a.1 * n + i * (b.1 - a.1)) % n + (a.2 * n + i * (b.2 - a.2)) % n) = n := by
          have h7 := Int.mul_ediv_add_emod ((a.1 * n + i * (b.1 - a.1)) % n + (a.2 * n + i * (b.2 - a.2)) % n) n
          rw [h5] at h7
          generalize hu : (a.1 * n + i * (b.1 - a.1)) % n + (a.2 * n + i * (b.2 - a.2)) % n = u at *
          generalize hc : u / n = c at *
          have hu1 : 0 < u := by omega
          have hu2 : u < 2 * n := by omega
          have hc1 : 0 < c := by
            rcases Int.lt_or_le 0 c with h | h
            · exact h
            · have : n * c ≤ n * 0 := Int.mul_le_mul_of_nonneg_left h (by omega)
              omega
          have hc2 : c < 2 := by
            rcases Int.lt_or_le c 2 with h | h
            · exact h
            · have : n * 2 ≤ n * c := Int.mul_le_mul_of_nonneg_left h (by omega)
              omega
          have : c = 1 := by omega
          subst this
          omega
        exact h6
theorem between {x y n i : Int} (hi : 0 ≤ i ∧ i ≤ n) (hx : -40 ≤ x ∧ x ≤ 40) (hy : -40 ≤ y ∧ y ≤ 40) : -(40 * n) ≤ x * n + i * (y - x) ∧ x * n + i * (y - x) ≤ 40 * n := by
  have e : x * n + i * (y - x) = x * (n - i) + y * i := by grind
  rw [e]
  have h1 : x * (n - i) ≤ 40 * (n - i) := Int.mul_le_mul_of_nonneg_right hx.2 (by omega)
  have h2 : y * i ≤ 40 * i := Int.mul_le_mul_of_nonneg_right hy.2 (by omega)
  have h3 : -40 * (n - i) ≤ x * (n - i) := Int.mul_le_mul_of_nonneg_right hx.1 (by omega)
  have h4 : -40 * i ≤ y * i := Int.mul_le_mul_of_nonneg_right hy.1 (by omega)
  have e1 : 40 * (n - i) = 40 * n - 40 * i := by grind
  have e2 : -40 * (n - i) = -(40 * n) + 40 * i := by grind
  have e3 : -40 * i = -(40 * i) := by grind
  omega
def cellL (a b : Int × Int) (n i : Int) : List (Int × Int) := (nearF (a.1 * n + i * (b.1 - a.1)) (a.2 * n + i * (b.2 - a.2)) n).2
section
variable {a b : Int × Int} (ha : okHex a = true) (hb : okHex b = true) {n : Int} (hn : 0 < n) (e : n = dist a b)
include ha hb hn e
theorem dist_small : n ≤ 160 := by
  obtain ⟨a1, a2⟩ := okHex_iff.1 ha
  obtain ⟨b1, b2⟩ := okHex_iff.1 hb
  unfold dist at e
  split at e <;> split at e <;> split at e <;> omega
theorem nearest_eq {k : Nat} (hk : 10 < k) {i : Int} (hi : 0 ≤ i ∧ i ≤ n) (K : List (Int × Int) → Option R) : impl_nearestTo k (IntKind.wrap .i64 ((IntKind.wrap .i64 (a.1 * n)) + (IntKind.wrap .i64 (i * (IntKind.wrap .i64 (b.1 - a.1)))))) (IntKind.wrap .i64 ((IntKind.wrap .i64 (a.2 * n)) + (IntKind.wrap .i64 (i * (IntKind.wrap .i64 (b.2 - a.2)))))) n K = K (cellL a b n i) := by
  obtain ⟨a1, a2⟩ := okHex_iff.1 ha
  obtain ⟨b1, b2⟩ := okHex_iff.1 hb
  have hs := dist_small ha hb hn e
  have m1 := mulB (a := a.1) (b := n) (B := 160) (by omega) (by omega)
  have m2 := mulB (a := a.2) (b := n) (B := 160) (by omega) (by omega)
  have m3 := mulB (a := i) (b := b.1 - a.1) (B := 160) (by omega) (by omega)
  have m4 := mulB (a := i) (b := b.2 - a.2) (B := 160) (by omega) (by omega)
  have q1 := between hi a1 b1
  have q2 := between hi a2 b2
  rw [w64 (n := b.1 - a.1) (by omega), w64 (n := b.2 - a.2) (by omega), w64 (n := a.1 * n) (by omega), w64 (n := a.2 * n) (by omega), w64 (n := i * (b.1 - a.1)) (by omega), w64 (n := i * (b.2 - a.2)) (by omega), w64 (n := a.1 * n + i * (b.1 - a.1)) (by omega), w64 (n := a.2 * n + i * (b.2 - a.2)) (by omega), nearestTo_eq hk ⟨hn, by omega⟩ (by omega) (by omega)]
  rfl
theorem cells_ok {i : Int} (hi : 0 ≤ i ∧ i ≤ n) : (cellL a b n i).all okHex = true ∧ (cellL a b n i).length ≤ 2 := by
  obtain ⟨a1, a2⟩ := okHex_iff.1 ha
  obtain ⟨b1, b2⟩ := okHex_iff.1 hb
  have q1 := between hi a1 b1
  have q2 := between hi a2 b2
  have w := whole3 (i := i) hn e
  unfold cellL
  generalize a.1 * n + i * (b.1 - a.1) = q at *
  generalize a.2 * n + i * (b.2 - a.2) = r at *
  have hq0 : 0 ≤ q % n := Int.emod_nonneg _ (by omega)
  have hq1 : q % n < n := Int.emod_lt_of_pos _ hn
  have hr0 : 0 ≤ r % n := Int.emod_nonneg _ (by omega)
  have hr1 : r % n < n := Int.emod_lt_of_pos _ hn
  have eq1 := Int.mul_ediv_add_emod q n
  have er1 := Int.mul_ediv_add_emod r n
  have hqb : -(40 * n) ≤ n * (q / n) + q % n ∧ n * (q / n) + q % n ≤ 40 * n := by omega
  have hrb : -(40 * n) ≤ n * (r / n) + r % n ∧ n * (r / n) + r % n ≤ 40 * n := by omega
  by_cases hA : q % n = 0
  · rw [nearF_A hn hA]
    refine ⟨List.all_eq_true.2 fun h hh => ?_, by rw [List.length_map]; exact nearL_len _ _ _⟩
    obtain ⟨y, hy, rfl⟩ := List.mem_map.1 hh
    obtain ⟨k1, _⟩ := nearL_in hn hr0 hr1 hrb hy
    obtain ⟨x, hx⟩ : ∃ x, x ∈ nearL (q / n) (q % n) n := by
      unfold nearL
      split
      · exact ⟨_, List.mem_cons_self⟩
      · split <;> exact ⟨_, List.mem_cons_self⟩
    obtain ⟨_, _, k2, k3, _⟩ := nearL_in hn hq0 hq1 hqb hx
    exact okHex_iff.2 ⟨⟨k2, k3⟩, k1⟩
  · by_cases hB : r % n = 0
    · rw [nearF_B hn hB]
      refine ⟨List.all_eq_true.2 fun h hh => ?_, by rw [List.length_map]; exact nearL_len _ _ _⟩
      obtain ⟨x, hx, rfl⟩ := List.mem_map.1 hh
      obtain ⟨k1, _⟩ := nearL_in hn hq0 hq1 hqb hx
      obtain ⟨y, hy⟩ : ∃ x, x ∈ nearL (r / n) (r % n) n := by
        unfold nearL
        split
        · exact ⟨_, List.mem_cons_self⟩
        · split <;> exact ⟨_, List.mem_cons_self⟩
      obtain ⟨_, _, k2, k3, _⟩ := nearL_in hn hr0 hr1 hrb hy
      exact okHex_iff.2 ⟨k1, k2, k3⟩
    · have hC : q % n + r % n = n := by
        rcases w with w | w | w
        · exact absurd w hA
        · exact absurd w hB
        · exact w
      rw [nearF_C hn hA hC]
      refine ⟨List.all_eq_true.2 fun h hh => ?_, by rw [List.length_map]; exact nearL_len _ _ _⟩
      obtain ⟨x, hx, rfl⟩ := List.mem_map.1 hh
      obtain ⟨k1, k4, _⟩ := nearL_in hn hq0 hq1 hqb hx
      obtain ⟨y, hy⟩ : ∃ x, x ∈ nearL (r / n) (r % n) n := by
        unfold nearL
        split
        · exact ⟨_, List.mem_cons_self⟩
        · split <;> exact ⟨_, List.mem_cons_self⟩
      obtain ⟨_, _, k2, k3, k5⟩ := nearL_in hn hr0 hr1 hrb hy
      have := k5 (by omega)
      refine okHex_iff.2 ⟨k1, ?_, ?_⟩
      · show -40 ≤ q / n + r / n + 1 - x
        rcases k4 with k4 | ⟨k4, _⟩ <;> omega
      · show q / n + r / n + 1 - x ≤ 40
        rcases k4 with k4 | ⟨k4, _⟩ <;> omega
theorem hCells_eq {k : Nat} (hk : 10 < k) {i : Int} (hi : 0 ≤ i ∧ i ≤ n) (K : List (Int × Int) → Option R) : spec_hCells k a b i n K = K (cellL a b n i) := by
  obtain ⟨a1, a2⟩ := okHex_iff.1 ha
  obtain ⟨b1, b2⟩ := okHex_iff.1 hb
  have hs := dist_small ha hb hn e
  have m1 := mulB (a := a.1) (b := n) (B := 160) (by omega) (by omega)
  have m2 := mulB (a := a.2) (b := n) (B := 160) (by omega) (by omega)
  have m3 := mulB (a := i) (b := b.1 - a.1) (B := 160) (by omega) (by omega)
  have m4 := mulB (a := i) (b := b.2 - a.2) (B := 160) (by omega) (by omega)
  have q1 := between hi a1 b1
  have q2 := between hi a2 b2
  have c1 : (b.1 - a.1) * i = i * (b.1 - a.1) := Int.mul_comm _ _
  have c2 : (b.2 - a.2) * i = i * (b.2 - a.2) := Int.mul_comm _ _
  have w := whole3 (i := i) hn e
  unfold spec_hCells
  rw [w64 (n := b.1 - a.1) (by omega), w64 (n := b.2 - a.2) (by omega), c1, c2, w64 (n := a.1 * n) (by omega), w64 (n := a.2 * n) (by omega), w64 (n := i * (b.1 - a.1)) (by omega), w64 (n := i * (b.2 - a.2)) (by omega), w64 (n := a.1 * n + i * (b.1 - a.1)) (by omega), w64 (n := a.2 * n + i * (b.2 - a.2)) (by omega)]
  unfold cellL
  generalize a.1 * n + i * (b.1 - a.1) = q at *
  generalize a.2 * n + i * (b.2 - a.2) = r at *
  rw [decide_eq_false (by omega : ¬ n = 0), Bool.not_false, cond_true]
  have hq0 : 0 ≤ q % n := Int.emod_nonneg _ (by omega)
  have hq1 : q % n < n := Int.emod_lt_of_pos _ hn
  have hr0 : 0 ≤ r % n := Int.emod_nonneg _ (by omega)
  have hr1 : r % n < n := Int.emod_lt_of_pos _ hn
  have eq1 := Int.mul_ediv_add_emod q n
  have er1 := Int.mul_ediv_add_emod r n
  have hqb : -(40 * n) ≤ n * (q / n) + q % n ∧ n * (q / n) + q % n ≤ 40 * n := by omega
  have t1 := tdiv_small (n := n) (a := q) ⟨hn, by omega⟩ (by omega)
  have t2 := tdiv_small (n := n) (a := r) ⟨hn, by omega⟩ (by omega)
  have t3 := tdiv_small (n := n) (a := q + r) ⟨hn, by omega⟩ (by omega)
  obtain ⟨g1, g2⟩ := tmod_emod (a := q) hn
  obtain ⟨g3, g4⟩ := tmod_emod (a := r) hn
  obtain ⟨g5, g6⟩ := tmod_emod (a := q + r) hn
  by_cases hA : q % n = 0
  · rw [decide_eq_true (g1.2 hA), cond_true, hNear_eq ⟨hn, by omega⟩ (by omega), nearF_A hn hA]
    have := hCells_l0_eq (k := k) (n := n) (Q := q) hn (nearL (r / n) (r % n) n) (nearL_len _ _ _) (by omega) (by omega) (fun x9 => K x9)
    rw [this, g2 hA]
  · rw [decide_eq_false (fun h => hA (g1.1 h)), cond_false, hNear_eq ⟨hn, by omega⟩ (by omega)]
    have := hCells_l1_eq (k := k) (n := n) (Q := q) (T := r) hn (nearL (q / n) (q % n) n) (nearL_len _ _ _) (by omega) (by omega) (by omega) (by omega) (by omega) (fun x hx => by
      obtain ⟨k1, _⟩ := nearL_in hn hq0 hq1 hqb hx
      omega) (fun x17 => K x17)
    rw [this]
    by_cases hB : r % n = 0
    · rw [nearF_B hn hB]
      simp only [g3.2 hB, if_true, g4 hB]
    · have hC : q % n + r % n = n := by
        rcases w with w | w | w
        · exact absurd w hA
        · exact absurd w hB
        · exact w
      have hs0 : (q + r) % n = 0 := by rw [Int.add_emod, hC]; exact Int.emod_self
      have hsd : (q + r) / n = q / n + r / n + 1 := by
        refine ((Int.ediv_emod_unique (q := q / n + r / n + 1) (r := 0) hn).2 ⟨?_, by omega, hn⟩).1
        have : n * (q / n + r / n + 1) = n * (q / n) + n * (r / n) + n := by grind
        omega
      rw [nearF_C hn hA hC]
      simp only [if_neg (fun h => hB (g3.1 h)), g6 hs0, hsd]
def lineV (a b : Int × Int) (n : Int) : List (List (Int × Int)) := (List.range (n.toNat + 1)).map fun (i : Nat) => cellL a b n (i : Int)
omit ha hb hn e in
theorem lineV_succ (i : Nat) : (List.range (i + 1)).map (fun (i : Nat) => cellL a b n (i : Int)) = (List.range i).map (fun (i : Nat) => cellL a b n (i : Int)) ++ [cellL a b n (i : Int)] := by
  rw [List.range_succ, List.map_append]; rfl
theorem hLine_l0_eq {k : Nat} (hk : 200 < k) (K : List (List (Int × Int)) → Option R) : spec_hLine_l0 k K k n (0 : Int) a b [] = K (lineV a b n) := by
  have hs := dist_small ha hb hn e
  have := loop_det (fun m i (s : List (List (Int × Int))) => spec_hLine_l0 k K m n (i : Int) a b s) (n.toNat + 1) (fun i => (List.range i).map fun (i : Nat) => cellL a b n (i : Int)) (K (lineV a b n)) ?_ ?_ k 0 (Nat.zero_le _) (by omega)
  · simpa using this
  · intro m i hi
    show spec_hLine_l0 k K (m + 1) n (i : Int) a b _ = spec_hLine_l0 k K m n ((i + 1 : Nat) : Int) a b _
    rw [spec_hLine_l0, decide_eq_true (by omega : (i : Int) ≤ n), cond_true, hCells_eq ha hb hn e (by omega) ⟨by omega, by omega⟩, decide_eq_true (by unfold maxGrow; simp; omega), cond_true, wsucc (by omega), lineV_succ]
  · intro m
    show spec_hLine_l0 k K (m + 1) n ((n.toNat + 1 : Nat) : Int) a b _ = _
    rw [spec_hLine_l0, decide_eq_false (by omega)]; rfl
theorem lineOf_l0_eq {k : Nat} (hk : 200 < k) (K : List (List (Int × Int)) → Option R) : impl_lineOf_l0 k K k n (0 : Int) a b [] = K (lineV a b n) := by
  have hs := dist_small ha hb hn e
  have := loop_det (fun m i (s : List (List (Int × Int))) => impl_lineOf_l0 k K m n (i : Int) a b s) (n.toNat + 1) (fun i => (List.range i).map fun (i : Nat) => cellL a b n (i : Int)) (K (lineV a b n)) ?_ ?_ k 0 (Nat.zero_le _) (by omega)
  · simpa using this
  · intro m i hi
    show impl_lineOf_l0 k K (m + 1) n (i : Int) a b _ = impl_lineOf_l0 k K m n ((i + 1 : Nat) : Int) a b _
    rw [impl_lineOf_l0, decide_eq_true (by omega : (i : Int) ≤ n), cond_true, nearest_eq ha hb hn e (by omega) ⟨by omega, by omega⟩, decide_eq_true (by unfold maxGrow; simp; omega), cond_true, wsucc (by omega), lineV_succ]
  · intro m
    show impl_lineOf_l0 k K (m + 1) n ((n.toNat + 1 : Nat) : Int) a b _ = _
    rw [impl_lineOf_l0, decide_eq_false (by omega)]; rfl
theorem lineV_ok : (lineV a b n).length ≤ 161 ∧ ∀ x ∈ lineV a b n, x.all okHex = true ∧ x.length ≤ 2 := by
  have hs := dist_small ha hb hn e
  refine ⟨by unfold lineV; simp; omega, fun x hx => ?_⟩
  unfold lineV at hx
  obtain ⟨i, hi, rfl⟩ := List.mem_map.1 hx
  have := List.mem_range.1 hi
  exact cells_ok ha hb hn e ⟨by omega, by omega⟩
end
theorem dist_nn (a b : Int × Int) : 0 ≤ dist a b := by
  unfold dist
  split <;> split <;> split <;> omega
theorem LineOf_l0_eq {k : Nat} (l : List (List (Int × Int))) (hl : l.length < k) (hb : l.length ≤ 1000) (hx : ∀ x ∈ l, x.all okHex = true ∧ x.length ≤ 2) (hk : 10 < k) (K0 : List (List (Int × Int)) → Option R) (K1 : Bool → Option R) : impl_LineOf_l0 k K0 K1 k (l.length : Int) (0 : Int) l = K0 l := by
  have := loop_all0 (fun m i => impl_LineOf_l0 k K0 K1 m (l.length : Int) (i : Int) l) l (fun _ => true) (K0 l) (K0 l) ?_ ?_ (m := k) hl
  · rw [show ((0 : Int)) = ((0 : Nat) : Int) from rfl, this]
    cases l.all fun _ => true <;> rfl
  · intro m i hi
    obtain ⟨h1, h2⟩ := hx l[i] (List.getElem_mem hi)
    show impl_LineOf_l0 k K0 K1 (m + 1) (l.length : Int) (i : Int) l = bif true then impl_LineOf_l0 k K0 K1 m (l.length : Int) ((i + 1 : Nat) : Int) l else _
    rw [impl_LineOf_l0, dlt, d0, decide_eq_true hi, toNatC, getD_lt hi, wsucc (by omega), allHexes_eq _ (by omega) (by omega), h1]; rfl
  · intro m
    show impl_LineOf_l0 k K0 K1 (m + 1) (l.length : Int) (l.length : Int) l = _
    rw [impl_LineOf_l0, dlt, decide_eq_false (by omega)]; rfl
theorem cS_le (l : List (List (Int × Int))) (h : ∀ x ∈ l, x.length ≤ 2) : cS cH l ≤ 4 * l.length := by
  induction l with
  | nil => simp [cS]
  | cons x l ih =>
    have h1 := h x (by simp)
    have h2 := ih (fun y hy => h y (by simp [hy]))
    simp only [cS, cH, List.length_cons] at *
    omega
theorem LineOf_same (a b : Int × Int) : ∃ v r, v.length ≤ 1000 ∧ (∀ x ∈ v, x.length ≤ 2) ∧ (∀ {R : Type} (K : List (List (Int × Int)) → Bool → Option R), spec_LineOf 4194304 a b K = K v r) ∧ ∀ {R : Type} (K : List (List (Int × Int)) → Bool → Option R), impl_LineOf 4194304 a b K = K v r := by
  cases ha : okHex a
  · exact ⟨[], false, by simp, (fun x hx => by cases hx), fun K => by unfold spec_LineOf; rw [hGood_eq, ha]; rfl, fun K => by unfold impl_LineOf; rw [IsHex_eq, ha]; rfl⟩
  cases hb : okHex b
  · exact ⟨[], false, by simp, (fun x hx => by cases hx), fun K => by unfold spec_LineOf; rw [hGood_eq, ha, hGood_eq, hb]; rfl, fun K => by unfold impl_LineOf; rw [IsHex_eq, ha, IsHex_eq, hb]; rfl⟩
  have na := okHex_near ha
  have nb := okHex_near hb
  by_cases h0 : dist a b = 0
  · have hok : ∀ x ∈ [[a]], x.all okHex = true ∧ x.length ≤ 2 := fun x hx => by rw [List.mem_singleton.1 hx]; simp [ha]
    refine ⟨[[a]], true, by simp, fun x hx => (hok x hx).2, fun K => ?_, fun K => ?_⟩
    · unfold spec_LineOf spec_hLine
      rw [hGood_eq, ha, hGood_eq, hb, hDistance_eq na nb, decide_eq_true h0]; rfl
    · unfold impl_LineOf impl_lineOf
      rw [IsHex_eq, ha, IsHex_eq, hb, Bool.not_true, cond_false, cond_false, distance_eq na nb, decide_eq_true h0, cond_true]
      exact LineOf_l0_eq [[a]] (by simp) (by simp) hok (by omega) _ _
  · have hn : 0 < dist a b := by have := dist_nn a b; omega
    obtain ⟨h1, h2⟩ := lineV_ok ha hb hn rfl
    refine ⟨lineV a b (dist a b), true, by omega, fun x hx => (h2 x hx).2, fun K => ?_, fun K => ?_⟩
    · unfold spec_LineOf spec_hLine
      rw [hGood_eq, ha, hGood_eq, hb, Bool.not_true, cond_false, cond_false, hDistance_eq na nb, decide_eq_false h0, cond_false, hLine_l0_eq ha hb hn rfl (by omega)]
    · unfold impl_LineOf impl_lineOf
      rw [IsHex_eq, ha, IsHex_eq, hb, Bool.not_true, cond_false, cond_false, distance_eq na nb, decide_eq_false h0, cond_false, lineOf_l0_eq ha hb hn rfl (by omega)]
      exact LineOf_l0_eq _ (by omega) (by omega) h2 (by omega) _ _
theorem law_FnExactLineOf (a : Int × Int) (w : Wf (.st (.pair (.int .i64) (.int .i64))) a) (b : Int × Int) (w2 : Wf (.st (.pair (.int .i64) (.int .i64))) b) (K : Bool → Option R) : laws_FnExactLineOf 4194304 a b K = K true := by
  obtain ⟨v, r, hv, hx, e1, e2⟩ := LineOf_same a b
  have hc := cS_le v hx
  have hx2 : ∀ x ∈ v, x.length < 4194304 ∧ x.length ≤ 137438953472 := fun x h => by have := hx x h; omega
  unfold laws_FnExactLineOf
  rw [toHex_eq, toHex_eq, e1, toHex_eq, toHex_eq, e2, eqHexSS_self _ (by omega) (by omega) hx2, markHexSS_eq _ (by omega) (by omega) (by omega) hx2, heldHexSS_eq _ (by omega) (by omega) (by omega) hx2, decide_eq_false (by omega), decide_eq_true rfl, toHex_eq, toHex_eq, e2, eqHexSS_self _ (by omega) (by omega) hx2, heldHexSS_eq _ (by omega) (by omega) (by omega) hx2, decide_eq_false (by omega), decide_eq_true rfl]
  simp
end
end Go.Lg
