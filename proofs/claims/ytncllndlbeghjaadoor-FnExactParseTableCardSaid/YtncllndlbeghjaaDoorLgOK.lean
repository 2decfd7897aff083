/- Reading a table: the law. -/
import Derived.Test.YtncllndlbeghjaaDoorLg1
set_option linter.unusedVariables false
set_option linter.unusedSimpArgs false
set_option linter.unusedSectionVars false
set_option linter.unusedSimpArgs false
set_option linter.unusedVariables false
namespace Go.Lg
open Go Go.Ev
section
variable {R α σ ι : Type}
theorem rowT_sz {ls : List ByteArray} (hs : ∀ s ∈ ls, s.size ≤ 1048576) : ∀ r ∈ ls.map rowT, r.length ≤ 1048576 := by
  intro r hr
  obtain ⟨s, h1, rfl⟩ := List.mem_map.1 hr
  have := hs s h1
  show ((toL s).map datW).length ≤ _
  rw [List.length_map, toL_len]; exact this
theorem tabS_small {x : ByteArray} (hx : x.size ≤ 1048576) {t : TabT} (h : tabS (spV x 10) = some t) : smallT t := by
  have hsz : ∀ s ∈ spV x 10, s.size ≤ 1048576 := fun s h => by have := spV_size h; omega
  have hln := spV_len x 10
  unfold tabS at h
  generalize spV x 10 = ls at *
  have h0 : (ls.getD 0 zB).size ≤ 1048576 := by rw [getD_lt (by omega)]; exact hsz _ (List.getElem_mem _)
  have hw := spV_len (ls.getD 0 zB) 32
  generalize spV (ls.getD 0 zB) 32 = ws at *
  obtain ⟨v, hv, rfl⟩ := Option.map_eq_some_iff.1 h
  unfold oddS at hv
  split at hv
  · cases hv
  · obtain ⟨u, hu, rfl⟩ := Option.map_eq_some_iff.1 hv
    have hl := colS_len hu
    rw [List.length_drop, List.length_take] at hl
    refine ⟨by show u.length ≤ _; omega, ?_, fun r hr => ?_⟩
    · show (List.take (ls.length - 2) (ls.tail.map rowT)).length ≤ _
      rw [List.length_take]; omega
    · exact rowT_sz (fun s h => hsz s (List.mem_of_mem_tail h)) r (List.mem_of_mem_take hr)
theorem tabI_small {x : ByteArray} (hx : x.size ≤ 1048576) {t : TabT} (h : tabI (spV x 10) = some t) : smallT t := by
  have hsz : ∀ s ∈ spV x 10, s.size ≤ 1048576 := fun s h => by have := spV_size h; omega
  have hln := spV_len x 10
  unfold tabI at h
  generalize spV x 10 = ls at *
  have h0 : (ls.getD 0 zB).size ≤ 1048576 := by rw [getD_lt (by omega)]; exact hsz _ (List.getElem_mem _)
  have hw := spV_len (ls.getD 0 zB) 32
  generalize spV (ls.getD 0 zB) 32 = ws at *
  split at h
  · cases h
  · split at h
    · cases h
    · obtain ⟨u, hu, rfl⟩ := Option.map_eq_some_iff.1 h
      have hl := colI_len hu
      have hsub2 : (List.drop 1 (List.take (ls.length - 1) ls)).Sublist ls := (List.drop_sublist _ _).trans (List.take_sublist _ _)
      rw [List.length_drop, List.length_take] at hl
      refine ⟨by show u.length ≤ _; omega, ?_, fun r hr => ?_⟩
      · show ((List.drop 1 (List.take (ls.length - 1) ls)).map rowT).length ≤ _
        rw [List.length_map, List.length_drop, List.length_take]; omega
      · exact rowT_sz (fun s h => hsz s (hsub2.subset h)) r hr
theorem sTab_total {x : ByteArray} (hx : x.size ≤ 1048576) (K : TabT → Bool → Option R) : spec_ParseTable 4194304 x K = match tabS (spV x 10) with | some t => bif okT t x then K t true else K zTab false | none => K zTab false := by
  rw [kParse_eq (by omega) hx]
  cases hm : tabS (spV x 10) with
  | none => rfl
  | some t =>
    have hsm := tabS_small hx hm
    simp only []
    rw [kGood_eq hsm]
    unfold okT
    cases hg : goodT t
    · rfl
    · rw [Bool.not_true, cond_false, kText_eq hg, Bool.true_and]
      cases ((tabZ t).toList == x.toList) <;> rfl
theorem iTab_total {x : ByteArray} (hx : x.size ≤ 1048576) (K : TabT → Bool → Option R) : impl_ParseTable 4194304 x K = match tabI (spV x 10) with | some t => bif okT t x then K t true else K zTab false | none => K zTab false := by
  rw [pTab_eq (by omega) hx]
  cases hm : tabI (spV x 10) with
  | none => rfl
  | some t =>
    have hsm := tabI_small hx hm
    simp only []
    rw [IsTab_eq hsm]
    unfold okT
    cases hg : goodT t
    · rfl
    · rw [Bool.not_true, cond_false, tableText_eq hg, Bool.true_and]
      cases ((tabZ t).toList == x.toList) <;> rfl
theorem okT_back {x : ByteArray} {t : TabT} (h : okT t x = true) : tabS (spV x 10) = some t ∧ tabI (spV x 10) = some t := by
  unfold okT at h
  simp only [Bool.and_eq_true] at h
  have e := toList_inj h.2
  exact ⟨e ▸ tabS_back h.1, e ▸ tabI_back h.1⟩
theorem ParseTable_same {x : ByteArray} (hx : x.size ≤ 1048576) : ∃ (v : TabT) (c : Bool), smallT v ∧ (∀ {R : Type} (K : TabT → Bool → Option R), spec_ParseTable 4194304 x K = K v c) ∧ ∀ {R : Type} (K : TabT → Bool → Option R), impl_ParseTable 4194304 x K = K v c := by
  have hz : smallT zTab := by unfold smallT zTab; simp
  by_cases hex : ∃ t, okT t x = true
  · obtain ⟨t, ht⟩ := hex
    obtain ⟨b1, b2⟩ := okT_back ht
    exact ⟨t, true, tabS_small hx b1, fun K => by rw [sTab_total hx, b1]; simp only [ht]; rfl, fun K => by rw [iTab_total hx, b2]; simp only [ht]; rfl⟩
  · have hno : ∀ t, okT t x = false := fun t => by
      cases h : okT t x
      · rfl
      · exact absurd ⟨t, h⟩ hex
    refine ⟨zTab, false, hz, fun K => ?_, fun K => ?_⟩
    · rw [sTab_total hx]
      cases tabS (spV x 10) with
      | none => rfl
      | some t => simp only [hno t]; rfl
    · rw [iTab_total hx]
      cases tabI (spV x 10) with
      | none => rfl
      | some t => simp only [hno t]; rfl
/-! ### marks held -/
theorem heldOddsS_hex {k : Nat} (K0 K1 : Int → Option R) : ∀ (m : Nat) (a : List (Int × Int)) (x y : Int), laws_heldOddsS_l0 k K0 K1 m a x y = laws_heldHexS_l0 k K0 K1 m a x y
  | 0, _, _, _ => rfl
  | m + 1, a, x, y => by
    rw [laws_heldOddsS_l0, laws_heldHexS_l0]
    simp only [heldOddsS_hex K0 K1 m]
theorem heldOddsS_k {k : Nat} (k0 : Int) (n : Nat) (hk : 0 ≤ k0 ∧ k0 + 2 * n ≤ 4000000000000000) (h : n < k) (hb : n ≤ 137438953472) (K : Int → Option R) : laws_heldOddsS k (mHk k0 n) k0 K = K (k0 + 2 * (n : Int)) := by
  have := heldHexS_k k0 n hk h hb K
  unfold laws_heldHexS at this
  unfold laws_heldOddsS
  rw [heldOddsS_hex]
  exact this
theorem heldIntSS_k {k : Nat} (a : List (List Int)) (k0 : Int) (h0k : 0 ≤ k0) (hc : k0 + cS cI a ≤ 4000000000000000) (hl : a.length < k) (hb : a.length ≤ 137438953472) (hx : ∀ x ∈ a, x.length < k ∧ x.length ≤ 137438953472) (K : Int → Option R) : laws_heldIntSS k (fS fI cI k0 a) k0 K = K (k0 + (cS cI a : Int)) := by
  unfold laws_heldIntSS
  have hlf := fS_len fI cI k0 a
  refine loop_held fI cI (fS fI cI k0 a) (fun m k1 i => laws_heldIntSS_l0 k (fun x => K x) (fun x => K x) m (fS fI cI k0 a) k1 (i : Int)) (fun k1 => K k1) (fun x => x.length < k ∧ x.length ≤ 137438953472) (by omega) ?_ ?_ k [] a k0 rfl hx (by omega) (by omega) hl
  · intro m k1 x pre r hx h0 h1 e
    have hlen : (fS fI cI k0 a).length = pre.length + (fI k1 x :: r).length := by rw [e]; exact List.length_append
    have hpos : pre.length < pre.length + (fI k1 x :: r).length := by simp
    show laws_heldIntSS_l0 k _ _ (m + 1) (fS fI cI k0 a) k1 (pre.length : Int) = laws_heldIntSS_l0 k _ _ m (fS fI cI k0 a) (k1 + (cI x : Nat)) ((pre.length + 1 : Nat) : Int)
    rw [laws_heldIntSS_l0, hlen, dlt, d0, decide_eq_true hpos, toNatC, wsucc (by omega)]
    have eg : (fS fI cI k0 a).getD pre.length [] = fI k1 x := by rw [e]; exact getD_at rfl
    unfold cI at h1
    rw [eg]
    unfold fI
    rw [heldIntS_k k1 x.length ⟨h0, by omega⟩ hx.1 hx.2, decide_eq_false (by omega)]
    rfl
  · intro m k1
    show laws_heldIntSS_l0 k _ _ (m + 1) (fS fI cI k0 a) k1 ((fS fI cI k0 a).length : Int) = _
    rw [laws_heldIntSS_l0, dlt, decide_eq_false (by omega)]; rfl
theorem heldTab_eq {t : TabT} (hs : smallT t) (K : Int → Option R) : laws_heldCombatTable 4194304 ((markTab 1 t).1, (t.2.1, (markTab 1 t).2.2)) 1 K = K (1 + cTab t) := by
  obtain ⟨s1, s2, s3⟩ := hs
  have hc := cS_small cI t.2.2 s2 (fun x hx => by have := s3 x hx; unfold cI; omega)
  unfold laws_heldCombatTable
  show laws_heldOddsS 4194304 (mHk 1 t.1.length) 1 (fun r => bif decide (r < 0) then K (-1) else laws_heldIntSS 4194304 (fS fI cI (1 + 2 * (t.1.length : Int)) t.2.2) r fun r0 => bif decide (r0 < 0) then K (-1) else K r0) = _
  rw [heldOddsS_k _ _ (by omega) (by omega) (by omega), decide_eq_false (by omega), cond_false, heldIntSS_k _ _ (by omega) (by omega) (by omega) (by omega) (fun x hx => by have := s3 x hx; omega), decide_eq_false (by omega), cond_false]
  unfold cTab
  rw [Int.add_assoc]
theorem law_FnExactParseTable (s : ByteArray) (w : Wf .str s) (K : Bool → Option R) : laws_FnExactParseTable 4194304 s K = K true := by
  unfold laws_FnExactParseTable
  by_cases hL : (1048576 : Int) < ((ByteArray.size s : Nat) : Int)
  · rw [decide_eq_true hL]; rfl
  · obtain ⟨v, c, hv, e1, e2⟩ := ParseTable_same (x := s) (by omega)
    have hd := cTab_le hv
    rw [decide_eq_false hL, cond_false, e1, e2, eqTab_self hv, markTab_eq hv, heldTab_eq hv, decide_eq_false (by omega), decide_eq_true rfl, e2, eqTab_self hv, heldTab_eq hv, decide_eq_false (by omega), decide_eq_true rfl]
    simp
end
end Go.Lg
