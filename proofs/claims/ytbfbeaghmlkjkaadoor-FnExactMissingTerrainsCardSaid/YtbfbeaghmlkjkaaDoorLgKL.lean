/- Missing terrains: the law. -/
import Derived.Test.YtbfbeaghmlkjkaaDoorLg1
set_option linter.unusedVariables false
set_option linter.unusedSimpArgs false
set_option linter.unusedSectionVars false
set_option linter.unusedSimpArgs false
set_option linter.unusedVariables false
namespace Go.Lg
open Go Go.Ev
section
variable {R α σ ι : Type}
theorem l1Put_in {k : Nat} (l : List Int) (n : Int) (h : l.length < k) (hb : l.length ≤ 1000000) (hu : l.Pairwise (· ≤ ·)) (hn : n ∈ l) (K : List Int → Option R) : spec_l1Put k l n K = K l := by
  unfold spec_l1Put
  generalize hF : (fun (l1 : List Int) (n_2 : Int) (k_0 : Int) => _ : List Int → Int → Int → Option R) = F
  have := loop_upto (fun m i => spec_l1Put_l0 k F m l n (i : Int)) l (fun x => decide (x < n)) (fun i => F l n (i : Int)) ?_ ?_ k 0 (Nat.zero_le _) (by omega)
  · refine Eq.trans this ?_
    rw [List.drop_zero, Nat.zero_add]
    have ht := take_tw l (fun x => decide (x < n))
    have hd := drop_tw l (fun x => decide (x < n))
    have hmem : n ∈ l.dropWhile (fun x => decide (x < n)) := by
      have := List.takeWhile_append_dropWhile (p := fun x => decide (x < n)) (l := l)
      rw [← this] at hn
      rcases List.mem_append.1 hn with h1 | h1
      · have := takeWhile_lt n h1; omega
      · exact h1
    have hdl := dropWhile_le (n := n) hu
    obtain ⟨j, hj⟩ : ∃ j, j = (l.takeWhile (fun x => decide (x < n))).length := ⟨_, rfl⟩
    rw [← hj] at hd ⊢
    rw [← hd] at hmem hdl
    have hlt : j < l.length := by
      rcases Nat.lt_or_ge j l.length with h1 | h1
      · exact h1
      · rw [List.drop_of_length_le h1] at hmem; cases hmem
    have he : l[j] = n := by
      rw [List.drop_eq_getElem_cons hlt] at hmem hdl
      have h1 := hdl l[j] List.mem_cons_self
      have hu2 : (l.drop j).Pairwise (· ≤ ·) := hu.sublist (List.drop_sublist j l)
      rw [List.drop_eq_getElem_cons hlt] at hu2
      rcases List.mem_cons.1 hmem with h2 | h2
      · exact h2.symm
      · have := (List.pairwise_cons.1 hu2).1 n h2; omega
    rw [← hF]
    show (bif decide ((j : Int) < (l.length : Int)) then _ else _) = _
    simp only [toNatC]
    rw [dlt, decide_eq_true hlt, d0, getD_lt hlt, decide_eq_true he]; rfl
  · intro m i hi
    show spec_l1Put_l0 k F (m + 1) l n (i : Int) = bif _ then spec_l1Put_l0 k F m l n ((i + 1 : Nat) : Int) else _
    rw [spec_l1Put_l0, dlt, d0, decide_eq_true hi, toNatC, getD_lt hi, wsucc (by omega)]
    rfl
  · intro m
    show spec_l1Put_l0 k F (m + 1) l n (l.length : Int) = _
    rw [spec_l1Put_l0, dlt, decide_eq_false (by omega)]; rfl
/-- Those of a list that no terrain of the rules has, below a bound. -/
def missV (lo : Nat) (S : List Int) (n : Nat) : List Int := filtV (fun t => decide (lo ≤ t) && decide ((t : Int) ∈ S)) (fun t => (t : Int)) n
theorem missV_mem {lo : Nat} {S : List Int} {n : Nat} {x : Int} : x ∈ missV lo S n ↔ (lo : Int) ≤ x ∧ x < (n : Int) ∧ x ∈ S := by
  constructor
  · intro h
    obtain ⟨i, h1, h2, rfl⟩ := filtV_mem h
    simp only [Bool.and_eq_true, decide_eq_true_eq] at h2
    exact ⟨by omega, by omega, h2.2⟩
  · rintro ⟨h1, h2, h3⟩
    unfold missV filtV
    refine List.mem_map.2 ⟨x.toNat, List.mem_filter.2 ⟨List.mem_range.2 (by omega), ?_⟩, by omega⟩
    have : ((x.toNat : Nat) : Int) = x := by omega
    rw [this]
    simp only [Bool.and_eq_true, decide_eq_true_eq]
    exact ⟨by omega, h3⟩
theorem missV_lt (lo : Nat) (S : List Int) (n : Nat) : (missV lo S n).Pairwise (· < ·) := by
  unfold missV filtV
  rw [List.pairwise_map]
  refine List.Pairwise.filter _ ?_
  exact List.pairwise_lt_range.imp (fun h => by omega)
theorem missV_le (lo : Nat) (S : List Int) (n : Nat) : (missV lo S n).Pairwise (· ≤ ·) := (missV_lt lo S n).imp (fun h => by omega)
theorem missV_nodup (lo : Nat) (S : List Int) (n : Nat) : (missV lo S n).Nodup := (missV_lt lo S n).imp (fun h => by omega)
theorem up_uniq {a b : List Int} (h1 : a.Pairwise (· ≤ ·)) (h2 : b.Pairwise (· ≤ ·)) (h3 : a.Nodup) (h4 : b.Nodup) (h : ∀ x, x ∈ a ↔ x ∈ b) : a = b := by
  have hp := (List.perm_ext_iff_of_nodup h3 h4).2 h
  exact List.Perm.eq_of_pairwise (le := (· ≤ ·)) (fun a b _ _ h3 h4 => by have h3 : a ≤ b := h3; have h4 : b ≤ a := h4; omega) h1 h2 hp
theorem missV_put {lo : Nat} {S : List Int} {n : Nat} {x : Int} (h1 : (lo : Int) ≤ x) (h2 : x < (n : Int)) {k : Nat} (hk : 1000000 < k) (hn : n ≤ 1000) (K : List Int → Option R) : spec_l1Put k (missV lo S n) x K = K (missV lo (S ++ [x]) n) := by
  have hl : (missV lo S n).length ≤ n := filtV_len _ _ _
  by_cases hm : x ∈ missV lo S n
  · rw [l1Put_in _ _ (by omega) (by omega) (missV_le lo S n) hm]
    congr 1
    refine up_uniq (missV_le _ _ _) (missV_le _ _ _) (missV_nodup _ _ _) (missV_nodup _ _ _) fun y => ?_
    rw [missV_mem, missV_mem, List.mem_append, List.mem_singleton]
    refine ⟨fun ⟨a, b, c⟩ => ⟨a, b, .inl c⟩, fun ⟨a, b, c⟩ => ⟨a, b, c.elim id fun e => ?_⟩⟩
    subst e
    exact (missV_mem.1 hm).2.2
  · rw [l1Put_eq _ _ (by omega) (by omega) hm]
    congr 1
    refine up_uniq (putI_up (missV_le _ _ _)) (missV_le _ _ _) ?_ (missV_nodup _ _ _) fun y => ?_
    · refine (putI_perm x (missV lo S n)).nodup_iff.2 ?_
      rw [List.nodup_append]
      refine ⟨missV_nodup _ _ _, by simp, fun a ha b hb e => ?_⟩
      rw [List.mem_singleton] at hb
      subst hb; subst e; exact hm ha
    · rw [(putI_perm x (missV lo S n)).mem_iff, List.mem_append, List.mem_singleton, missV_mem, missV_mem, List.mem_append, List.mem_singleton]
      constructor
      · rintro (⟨a, b, c⟩ | rfl)
        · exact ⟨a, b, .inl c⟩
        · exact ⟨h1, h2, .inr rfl⟩
      · rintro ⟨a, b, c | c⟩
        · exact .inl ⟨a, b, c⟩
        · exact .inr c
theorem missV_skip {lo : Nat} {S : List Int} {n : Nat} {x : Int} (h1 : x < (lo : Int)) : missV lo (S ++ [x]) n = missV lo S n := by
  refine up_uniq (missV_le _ _ _) (missV_le _ _ _) (missV_nodup _ _ _) (missV_nodup _ _ _) fun y => ?_
  rw [missV_mem, missV_mem, List.mem_append, List.mem_singleton]
  refine ⟨fun ⟨a, b, c⟩ => ⟨a, b, c.elim id fun e => ?_⟩, fun ⟨a, b, c⟩ => ⟨a, b, .inl c⟩⟩
  omega
theorem Missing_same {r : RulT} {m : MapT} (hr : smallR r) (hm : small m) : ∃ (v : List Int) (c : Bool), v.length ≤ 1048576 ∧ (∀ {R : Type} (K : List Int → Bool → Option R), spec_MissingTerrains 4194304 r m K = K v c) ∧ ∀ {R : Type} (K : List Int → Bool → Option R), impl_MissingTerrains 4194304 r m K = K v c := by
  cases hg : goodR r
  · exact ⟨[], false, by simp, fun K => by unfold spec_MissingTerrains; rw [rGood_eq hr, hg]; rfl, fun K => by unfold impl_MissingTerrains; rw [IsRules_eq hr, hg]; rfl⟩
  cases hgm : good m
  · exact ⟨[], false, by simp, fun K => by unfold spec_MissingTerrains; rw [rGood_eq hr, hg, mGood_eq hm, hgm]; rfl, fun K => by unfold impl_MissingTerrains; rw [IsRules_eq hr, hg, IsMap_eq hm, hgm]; rfl⟩
  have hte := ter_ge hgm
  have hlen := ter_len hgm
  have hal := area_le (good_dim hgm)
  obtain ⟨h1, _⟩ := good_rul hg
  have hl : (missV r.1.length m.2.2.1 6).length ≤ 6 := filtV_len _ _ _
  refine ⟨missV r.1.length m.2.2.1 6, true, by omega, fun K => ?_, fun K => ?_⟩
  · unfold spec_MissingTerrains
    rw [rGood_eq hr, hg, mGood_eq hm, hgm, Bool.not_true, cond_false, cond_false]
    generalize hk : (4194304 : Nat) = k
    have e0 : ([] : List Int) = missV r.1.length (m.2.2.1.take 0) 6 := by
      refine up_uniq .nil (missV_le _ _ _) .nil (missV_nodup _ _ _) fun y => ?_
      rw [missV_mem, List.take_zero]; simp
    rw [e0]
    refine loop_det (fun q j s => spec_MissingTerrains_l0 k (fun out0 => K out0 true) q s m.2.2.1 (m.2.2.1.length : Int) (j : Int) r) m.2.2.1.length (fun j => missV r.1.length (m.2.2.1.take j) 6) _ ?_ ?_ k 0 (Nat.zero_le _) (by omega)
    · intro q j hj
      have hx := hte _ (List.getElem_mem hj)
      show spec_MissingTerrains_l0 k _ (q + 1) (missV r.1.length (m.2.2.1.take j) 6) m.2.2.1 _ (j : Int) r = spec_MissingTerrains_l0 k _ q (missV r.1.length (m.2.2.1.take (j + 1)) 6) m.2.2.1 _ ((j + 1 : Nat) : Int) r
      rw [spec_MissingTerrains_l0, dlt, d0, decide_eq_true hj, toNatC, getD_lt hj, wsucc (by omega), List.take_succ_eq_append_getElem hj]
      by_cases hc : (r.1.length : Int) ≤ m.2.2.1[j]
      · rw [decide_eq_true hc, missV_put hc (by omega) (by omega) (by omega)]; rfl
      · rw [decide_eq_false hc, missV_skip (by omega)]; rfl
    · intro q
      show spec_MissingTerrains_l0 k _ (q + 1) _ m.2.2.1 (m.2.2.1.length : Int) (m.2.2.1.length : Int) r = _
      rw [spec_MissingTerrains_l0, dlt, decide_eq_false (by omega), List.take_length]; rfl
  · unfold impl_MissingTerrains
    rw [IsRules_eq hr, hg, IsMap_eq hm, hgm, Bool.not_true, cond_false, cond_false]
    generalize hk : (4194304 : Nat) = k
    have e0 : ([] : List Int) = missV r.1.length m.2.2.1 r.1.length := by
      refine up_uniq .nil (missV_le _ _ _) .nil (missV_nodup _ _ _) fun y => ?_
      rw [missV_mem]; constructor
      · intro h; cases h
      · rintro ⟨a, b, _⟩; omega
    rw [e0]
    refine loop_det (fun q d s => impl_MissingTerrains_l0 k (fun out0 => K out0 true) q ((r.1.length + d : Nat) : Int) m s) (6 - r.1.length) (fun d => missV r.1.length m.2.2.1 (r.1.length + d)) _ ?_ ?_ k 0 (Nat.zero_le _) (by omega)
    · intro q d hd
      obtain ⟨t, ht⟩ : ∃ t, t = r.1.length + d := ⟨_, rfl⟩
      have hlt : (missV r.1.length m.2.2.1 t).length ≤ t := filtV_len _ _ _
      show impl_MissingTerrains_l0 k _ (q + 1) ((r.1.length + d : Nat) : Int) m (missV r.1.length m.2.2.1 (r.1.length + d)) = impl_MissingTerrains_l0 k _ q ((r.1.length + d + 1 : Nat) : Int) m (missV r.1.length m.2.2.1 (r.1.length + d + 1))
      rw [← ht]
      rw [impl_MissingTerrains_l0, decide_eq_true (by omega : (t : Int) < 6), cond_true, Contains_eq _ _ (by omega) (by omega), has_dec, wsucc (by omega), decide_eq_true (p := (missV r.1.length m.2.2.1 t).length + [(t : Int)].length ≤ maxGrow) (by unfold maxGrow; simp; omega)]
      have e : missV r.1.length m.2.2.1 (t + 1) = if (decide (r.1.length ≤ t) && decide ((t : Int) ∈ m.2.2.1)) = true then missV r.1.length m.2.2.1 t ++ [(t : Int)] else missV r.1.length m.2.2.1 t := filtV_succ _ _ _
      rw [e, decide_eq_true (by omega : r.1.length ≤ t), Bool.true_and]
      by_cases hc : (t : Int) ∈ m.2.2.1
      · rw [decide_eq_true hc, if_pos rfl]; rfl
      · rw [decide_eq_false hc, if_neg (by simp)]; rfl
    · intro q
      show impl_MissingTerrains_l0 k _ (q + 1) ((r.1.length + (6 - r.1.length) : Nat) : Int) m (missV r.1.length m.2.2.1 (r.1.length + (6 - r.1.length))) = _
      rw [show r.1.length + (6 - r.1.length) = 6 by omega, impl_MissingTerrains_l0, decide_eq_false (by omega)]; rfl
theorem law_FnExactMissingTerrains (r : RulT) (w : Wf RulTy r) (m : MapT) (w2 : Wf MapTy m) (K : Bool → Option R) : laws_FnExactMissingTerrains 4194304 r m K = K true := by
  unfold laws_FnExactMissingTerrains
  rw [szR_eq (by omega) (wfRul w) _ inL0]
  rcases szR_ok r 1048576 inL0 with h | ⟨g1, g2, hs⟩
  · rw [h]; rfl
  · obtain ⟨z, e0, h⟩ := szMap_ret w2 (szR r 1048576) ⟨g1, g2⟩
    rw [decide_eq_false (by omega), cond_false, e0]
    rcases h with h | ⟨hz, h3, h4⟩
    · rw [h]; rfl
    · obtain ⟨v, c, hv, e1, e2⟩ := Missing_same hs h4
      have hc := cR_le hs
      have hd := cM_le h4
      rw [decide_eq_false (by omega), cond_false, toRul_eq hs, toMap_eq h4, e1, toRul_eq hs, toMap_eq h4, e2, eqIntS_self _ (by omega) (by omega), toRul_eq hs, eqRul_self hs, toMap_eq h4, eqMap_self h4, markRules_eq hs _ (by omega) (by omega), markMap_k h4 _ (by omega) (by omega), decide_eq_false (by omega : ¬ (1 + cR r + cM m < 0)), eqIntS_self _ (by omega) (by omega), markIntS_eq _ _ (by omega) (by omega) (by omega), heldIntS_eq _ (by omega) (by omega), decide_eq_false (by omega), decide_eq_true rfl, toRul_eq hs, toMap_eq h4, e2, eqIntS_self _ (by omega) (by omega), heldIntS_eq _ (by omega) (by omega), decide_eq_false (by omega), decide_eq_true rfl]
      simp
end
end Go.Lg
