/- Marks of tables, rules, boards. -/
import Derived.Test.YtbfbeaghmlkjkaaDoorLg1
set_option linter.unusedVariables false
set_option linter.unusedSimpArgs false
set_option linter.unusedSectionVars false
set_option linter.unusedSimpArgs false
set_option linter.unusedVariables false
namespace Go.Lg
open Go Go.Ev
section
variable {R α σ ι : Type}
theorem set_at' {l r : List α} {x y : α} : (l ++ x :: r).set l.length y = l ++ y :: r := set_at rfl
theorem getD_at' {l r : List α} {x d : α} : (l ++ x :: r).getD l.length d = x := getD_at rfl
theorem len_at {l r : List α} {x : α} : (l ++ x :: r).length = l.length + (r.length + 1) := by simp
theorem lt_at {a b : Nat} : decide ((a : Int) < ((a + (b + 1) : Nat) : Int)) = true := decide_eq_true (by omega)
/-! ### rows of numbers -/
theorem markIntS_k {k : Nat} (a : List Int) (k0 : Int) (hk : 0 ≤ k0 ∧ k0 + a.length ≤ 4000000000000000) (h : a.length < k) (hb : a.length ≤ 137438953472) (K : List Int → Int → Option R) : laws_markIntS_in k a k0 K = K (mI k0 a.length) (k0 + (a.length : Int)) := by
  unfold laws_markIntS_in
  have h0 : a = mI k0 0 ++ a.drop 0 := by simp [mI]
  conv => lhs; rw [h0]
  have e0 : k0 = k0 + ((0 : Nat) : Int) := by omega
  conv => lhs; arg 4; rw [e0]
  refine loop_det (fun m i s => laws_markIntS_in_l0 k (fun x y => K y x) m (k0 + (i : Int)) (i : Int) s) a.length (fun i => mI k0 i ++ a.drop i) _ ?_ ?_ k 0 (Nat.zero_le _) (by omega)
  · intro m i hi
    show laws_markIntS_in_l0 k _ (m + 1) (k0 + (i : Int)) (i : Int) (mI k0 i ++ a.drop i) = laws_markIntS_in_l0 k _ m (k0 + ((i + 1 : Nat) : Int)) ((i + 1 : Nat) : Int) (mI k0 (i + 1) ++ a.drop (i + 1))
    have hl : (mI k0 i ++ a.drop i).length = a.length := by rw [List.length_append, mI_len, List.length_drop]; omega
    rw [laws_markIntS_in_l0, hl, dlt, d0, decide_eq_true hi, toNatC, wsucc (by omega), List.drop_eq_getElem_cons hi, set_at (mI_len k0 i), w64 (by omega), mI_succ, List.append_assoc, show k0 + (i : Int) + 1 = k0 + ((i + 1 : Nat) : Int) by omega]
    rfl
  · intro m
    have hl : (mI k0 a.length ++ a.drop a.length) = mI k0 a.length := by rw [List.drop_length, List.append_nil]
    show laws_markIntS_in_l0 k _ (m + 1) (k0 + (a.length : Int)) (a.length : Int) (mI k0 a.length ++ a.drop a.length) = _
    rw [hl, laws_markIntS_in_l0, mI_len, dlt, decide_eq_false (by omega)]; rfl
/-! ### odds -/
theorem cS_bound (c : α → Nat) (B : Nat) : ∀ (l : List α), (∀ x ∈ l, c x ≤ B) → cS c l ≤ B * l.length
  | [], _ => by simp [cS]
  | x :: l, h => by
    have h1 := h x (by simp)
    have h2 := cS_bound c B l (fun y hy => h y (by simp [hy]))
    simp only [cS, List.length_cons, Nat.mul_succ]
    omega
theorem cS_small (c : α → Nat) (l : List α) (hl : l.length ≤ 1048576) (h : ∀ x ∈ l, c x ≤ 1048580) : cS c l ≤ 1099515822080 := by
  have h1 := cS_bound c 1048580 l h
  have h2 : 1048580 * l.length ≤ 1048580 * 1048576 := Nat.mul_le_mul_left _ hl
  omega
/-! ### texts -/
def txtGo : Nat → Int → ByteArray → ByteArray
  | 0, _, o => o
  | f + 1, k, o => if 0 < k then txtGo f (Int.tdiv k 10) (bytesOfInts [IntKind.wrap .u8 (48 + Int.tmod k 10)] ++ o) else o
def txtM (k : Int) : ByteArray := if k ≤ 0 then (⟨#[109, 48]⟩ : ByteArray) else (⟨#[109]⟩ : ByteArray) ++ txtGo 20 k (⟨#[]⟩ : ByteArray)
theorem bytes1 (x : Int) : (bytesOfInts [x]).size = 1 := rfl
theorem txtGo_size : ∀ (f : Nat) (k : Int) (o : ByteArray), (txtGo f k o).size ≤ o.size + f
  | 0, _, o => by simp [txtGo]
  | f + 1, k, o => by
    unfold txtGo
    split
    · have := txtGo_size f (Int.tdiv k 10) (bytesOfInts [IntKind.wrap .u8 (48 + Int.tmod k 10)] ++ o)
      rw [ByteArray.size_append, bytes1] at this
      omega
    · omega
theorem markText_l0_eq {k : Nat} (K0 : ByteArray → Option R) : ∀ (f m : Nat) (n : Int) (o : ByteArray), 0 ≤ n → n < 10 ^ f → n ≤ 4000000000000000 → f < m → o.size + f ≤ 100 → laws_markText_l0 k K0 m n o = K0 (txtGo f n o)
  | 0, m + 1, n, o, h0, h1, hB, hm, ho => by
    have : n = 0 := by
      have : (10 : Int) ^ 0 = 1 := rfl
      omega
    subst this
    rw [laws_markText_l0]; rfl
  | f + 1, m + 1, n, o, h0, h1, hB, hm, ho => by
    rw [laws_markText_l0]
    unfold txtGo
    by_cases h : 0 < n
    · have ht : Int.tmod n 10 = n % 10 := Int.tmod_eq_emod_of_nonneg h0
      have hd : Int.tdiv n 10 = n / 10 := Int.tdiv_eq_ediv_of_nonneg h0
      have hp : (10 : Int) ^ (f + 1) = 10 * 10 ^ f := by rw [Int.pow_succ]; exact Int.mul_comm _ _
      rw [decide_eq_true h, if_pos h, cond_true, w64 (n := 48 + Int.tmod n 10) (by omega), w64 (n := Int.tdiv n 10) (by omega), bytes1, decide_eq_true (by unfold maxGrow; omega), cond_true]
      refine markText_l0_eq K0 f m _ _ (by omega) (by omega) (by omega) (by omega) ?_
      rw [ByteArray.size_append, bytes1]; omega
    · rw [decide_eq_false h, if_neg h]; rfl
theorem markText_eq {k : Nat} (hk : 21 < k) (n : Int) (h0 : 0 ≤ n) (hB : n ≤ 4000000000000000) (K : ByteArray → Option R) : laws_markText k n K = K (txtM n) := by
  unfold laws_markText txtM
  by_cases h : n ≤ 0
  · rw [decide_eq_true h, if_pos h]; rfl
  · have hs : (⟨#[]⟩ : ByteArray).size = 0 := rfl
    rw [decide_eq_false h, if_neg h, cond_false, markText_l0_eq _ 20 k n _ h0 (by have : (10 : Int) ^ 20 = 100000000000000000000 := by decide
                                                                                  omega) hB (by omega) (by rw [hs]; omega)]
    have h2 := txtGo_size 20 n (⟨#[]⟩ : ByteArray)
    have h3 : (⟨#[109]⟩ : ByteArray).size = 1 := rfl
    rw [decide_eq_true (by unfold maxGrow; rw [hs] at h2; rw [h3]; omega), cond_true]
/-! ### terrains and kinds -/
def fT (k : Int) (x : TerT) : TerT := (txtM k, mI (k + 1) x.2.1.length, k + 1 + x.2.1.length, k + 2 + x.2.1.length, decide (Int.tmod (k + 3 + x.2.1.length) 3 = 0))
def cT (x : TerT) : Nat := x.2.1.length + 4
def fK (k : Int) (x : KndT) : KndT := (txtM k, k + 1, k + 2, k + 3, decide (Int.tmod (k + 4) 3 = 0), k + 5)
def cK (x : KndT) : Nat := 6
theorem markTerrainS_k {k : Nat} (hk : 21 < k) (a : List TerT) (k0 : Int) (h0 : 0 ≤ k0) (hc : k0 + cS cT a ≤ 4000000000000000) (hl : a.length < k) (hb : a.length ≤ 137438953472) (hx : ∀ x ∈ a, x.2.1.length < k ∧ x.2.1.length ≤ 137438953472) (K : List TerT → Int → Option R) : laws_markTerrainS_in k a k0 K = K (fS fT cT k0 a) (k0 + (cS cT a : Int)) := by
  unfold laws_markTerrainS_in
  refine loop_mark fT cT (fun m k1 i s => laws_markTerrainS_in_l0 k (fun k_1 b => K b k_1) m k1 (i : Int) s) (fun k1 s => K s k1) (fun x => x.2.1.length < k ∧ x.2.1.length ≤ 137438953472) ?_ ?_ k [] a k0 hx h0 hc (by simpa using hb) hl
  · intro m k1 x pre r hx h0 h1 hl
    show laws_markTerrainS_in_l0 k _ (m + 1) k1 (pre.length : Int) (pre ++ x :: r) = laws_markTerrainS_in_l0 k _ m (k1 + (cT x : Nat)) ((pre.length + 1 : Nat) : Int) (pre ++ fT k1 x :: r)
    simp only [List.length_cons] at hl
    unfold cT at h1
    push_cast at h1
    have hB : k1 ≤ 4000000000000000 := by omega
    rw [laws_markTerrainS_in_l0, markText_eq hk k1 h0 hB, w64 (n := k1 + 1) (by omega)]
    simp only [toNatC, set_at', getD_at', len_at, lt_at, d0, cond_true, Bool.and_self]
    rw [markIntS_k x.2.1 (k1 + 1) ⟨by omega, by omega⟩ hx.1 hx.2]
    rw [w64 (n := k1 + 1 + (x.2.1.length : Int) + 1) (by omega), w64 (n := k1 + 1 + (x.2.1.length : Int) + 1 + 1) (by omega), w64 (n := k1 + 1 + (x.2.1.length : Int) + 1 + 1 + 1) (by omega), wsucc (by omega)]
    unfold fT cT
    push_cast
    rw [show k1 + 1 + (x.2.1.length : Int) + 1 + 1 + 1 = k1 + (x.2.1.length + 4) by omega, show k1 + 1 + (x.2.1.length : Int) + 1 + 1 = k1 + 3 + x.2.1.length by omega, show k1 + 1 + (x.2.1.length : Int) + 1 = k1 + 2 + x.2.1.length by omega]
    rw [show k1 + ((x.2.1.length : Int) + 1 + 1 + 1 + 1) = k1 + (x.2.1.length + 4) by omega]
  · intro m k1 s hs
    show laws_markTerrainS_in_l0 k _ (m + 1) k1 (s.length : Int) s = _
    rw [laws_markTerrainS_in_l0, dlt, decide_eq_false (by omega)]; rfl
theorem markKindS_k {k : Nat} (hk : 21 < k) (a : List KndT) (k0 : Int) (h0 : 0 ≤ k0) (hc : k0 + cS cK a ≤ 4000000000000000) (hl : a.length < k) (hb : a.length ≤ 137438953472) (K : List KndT → Int → Option R) : laws_markKindS_in k a k0 K = K (fS fK cK k0 a) (k0 + (cS cK a : Int)) := by
  unfold laws_markKindS_in
  refine loop_mark fK cK (fun m k1 i s => laws_markKindS_in_l0 k (fun k_1 b => K b k_1) m k1 (i : Int) s) (fun k1 s => K s k1) (fun x => True) ?_ ?_ k [] a k0 (fun _ _ => trivial) h0 hc (by simpa using hb) hl
  · intro m k1 x pre r hx h0 h1 hl
    show laws_markKindS_in_l0 k _ (m + 1) k1 (pre.length : Int) (pre ++ x :: r) = laws_markKindS_in_l0 k _ m (k1 + (cK x : Nat)) ((pre.length + 1 : Nat) : Int) (pre ++ fK k1 x :: r)
    simp only [List.length_cons] at hl
    unfold cK at h1
    push_cast at h1
    have hB : k1 ≤ 4000000000000000 := by omega
    rw [laws_markKindS_in_l0, markText_eq hk k1 h0 hB, w64 (n := k1 + 1) (by omega), w64 (n := k1 + 1 + 1) (by omega), w64 (n := k1 + 1 + 1 + 1) (by omega), w64 (n := k1 + 1 + 1 + 1 + 1) (by omega), w64 (n := k1 + 1 + 1 + 1 + 1 + 1) (by omega), w64 (n := k1 + 1 + 1 + 1 + 1 + 1 + 1) (by omega), wsucc (by omega)]
    simp only [toNatC, set_at', getD_at', len_at, lt_at, d0, cond_true, Bool.and_self]
    unfold fK cK
    push_cast
    rw [show k1 + 1 + 1 + 1 + 1 + 1 + 1 = k1 + 6 by omega, show k1 + 1 + 1 + 1 + 1 + 1 = k1 + 5 by omega, show k1 + 1 + 1 + 1 + 1 = k1 + 4 by omega, show k1 + 1 + 1 + 1 = k1 + 3 by omega, show k1 + 1 + 1 = k1 + 2 by omega]
  · intro m k1 s hs
    show laws_markKindS_in_l0 k _ (m + 1) k1 (s.length : Int) s = _
    rw [laws_markKindS_in_l0, dlt, decide_eq_false (by omega)]; rfl
/-! ### rules, maps, boards -/
def markR (k : Int) (r : RulT) : RulT := (fS fT cT k r.1, fS fK cK (k + cS cT r.1) r.2.1, r.2.2)
def cR (r : RulT) : Int := (cS cT r.1 : Int) + cS cK r.2.1
theorem cR_le {r : RulT} (hs : smallR r) : 0 ≤ cR r ∧ cR r ≤ 2199031644160 := by
  obtain ⟨s1, s2, s3, s4⟩ := hs
  have h1 := cS_small cT r.1 s1 (fun x hx => by have := (s3 x hx).2; unfold cT; omega)
  have h2 := cS_small cK r.2.1 s2 (fun x hx => by unfold cK; omega)
  unfold cR
  omega
theorem markRules_eq {r : RulT} (hs : smallR r) (k0 : Int) (h0 : 0 ≤ k0) (hB : k0 ≤ 1000000000000000) (K : RulT → Int → Option R) : laws_markRules_in 4194304 r k0 K = K (markR k0 r) (k0 + cR r) := by
  have hc := cR_le hs
  obtain ⟨s1, s2, s3, s4⟩ := hs
  have h1 := cS_small cT r.1 s1 (fun x hx => by have := (s3 x hx).2; unfold cT; omega)
  have h2 := cS_small cK r.2.1 s2 (fun x hx => by unfold cK; omega)
  unfold laws_markRules_in
  rw [markTerrainS_k (by omega) _ _ h0 (by omega) (by omega) (by omega) (fun x hx => by have := (s3 x hx).2; omega), markKindS_k (by omega) _ _ (by omega) (by omega) (by omega) (by omega)]
  unfold markR cR
  rw [show k0 + (cS cT r.1 : Int) + (cS cK r.2.1 : Int) = k0 + ((cS cT r.1 : Int) + cS cK r.2.1) by omega]
def markM (k : Int) (m : MapT) : MapT := (m.1, m.2.1, mI k m.2.2.1.length, mI (k + m.2.2.1.length) m.2.2.2.1.length, mI (k + m.2.2.1.length + m.2.2.2.1.length) m.2.2.2.2.length)
def cM (m : MapT) : Int := (m.2.2.1.length : Int) + m.2.2.2.1.length + m.2.2.2.2.length
theorem cM_le {m : MapT} (hs : small m) : 0 ≤ cM m ∧ cM m ≤ 3145728 := by
  obtain ⟨s1, s2, s3⟩ := hs
  unfold cM
  omega
theorem markMap_k {m : MapT} (hs : small m) (k0 : Int) (h0 : 0 ≤ k0) (hB : k0 ≤ 2000000000000000) (K : MapT → Int → Option R) : laws_markMap_in 4194304 m k0 K = K (markM k0 m) (k0 + cM m) := by
  obtain ⟨s1, s2, s3⟩ := hs
  unfold laws_markMap_in
  rw [markIntS_k _ _ ⟨h0, by omega⟩ (by omega) (by omega), markIntS_k _ _ ⟨by omega, by omega⟩ (by omega) (by omega), markIntS_k _ _ ⟨by omega, by omega⟩ (by omega) (by omega)]
  unfold markM cM
  rw [show k0 + (m.2.2.1.length : Int) + (m.2.2.2.1.length : Int) + (m.2.2.2.2.length : Int) = k0 + ((m.2.2.1.length : Int) + m.2.2.2.1.length + m.2.2.2.2.length) by omega]
def markB (k : Int) (b : BrdT) : BrdT := (markR k b.1, markM (k + cR b.1) b.2)
def cB (b : BrdT) : Int := cR b.1 + cM b.2
theorem cB_le {b : BrdT} (hs : smallB b) : 0 ≤ cB b ∧ cB b ≤ 2200000000000 := by
  have h1 := cR_le hs.1
  have h2 := cM_le hs.2
  unfold cB
  omega
theorem markBoard_eq {b : BrdT} (hs : smallB b) (K : BrdT → Int → Option R) : laws_markBoard_in 4194304 b 1 K = K (markB 1 b) (1 + cB b) := by
  have h1 := cR_le hs.1
  unfold laws_markBoard_in
  rw [markRules_eq hs.1 1 (by omega) (by omega), markMap_k hs.2 _ (by omega) (by omega)]
  unfold markB cB
  rw [show 1 + cR b.1 + cM b.2 = 1 + (cR b.1 + cM b.2) by omega]
  rfl
end
end Go.Lg
/- Counts of results; open hexes, unused terrains, stuck kinds: the laws. -/
set_option linter.unusedSimpArgs false
set_option linter.unusedVariables false
namespace Go.Lg
open Go Go.Ev
section
variable {R α σ ι : Type}
section
variable {t : TabT} {c : Int} (hg : goodT t = true) (h2 : 0 ≤ c) (h3 : c ≤ (t.1.length : Int) - 1)
include hg h2 h3
end
/-! ### open hexes -/
def openV (b : BrdT) (kind : Int) (n : Nat) : List Int := ((List.range n).filter fun (i : Nat) => decide (0 < costAt b kind (i : Int))).map fun (i : Nat) => (i : Int)
theorem openV_succ (b : BrdT) (kind : Int) (n : Nat) : openV b kind (n + 1) = if 0 < costAt b kind (n : Int) then openV b kind n ++ [(n : Int)] else openV b kind n := by
  unfold openV
  rw [List.range_succ, List.filter_append, List.map_append]
  by_cases h : 0 < costAt b kind (n : Int)
  · rw [if_pos h, List.filter_cons, if_pos (by simpa using h)]; rfl
  · rw [if_neg h, List.filter_cons, if_neg (by simpa using h)]; simp
theorem openV_len (b : BrdT) (kind : Int) (n : Nat) : (openV b kind n).length ≤ n := by
  unfold openV
  rw [List.length_map]
  exact Nat.le_trans (List.length_filter_le _ _) (by simp)
theorem openV_mem {b : BrdT} {kind : Int} {n : Nat} {x : Int} (h : x ∈ openV b kind n) : 0 ≤ x ∧ x < n ∧ 0 < costAt b kind x := by
  unfold openV at h
  obtain ⟨i, hi, rfl⟩ := List.mem_map.1 h
  obtain ⟨h1, h2⟩ := List.mem_filter.1 hi
  have := List.mem_range.1 h1
  exact ⟨by omega, by omega, by simpa using h2⟩
section
variable {b : BrdT} (hg : goodB b = true) {kind : Int} (hk : 0 ≤ kind ∧ kind < (b.1.2.1.length : Int))
include hg hk
theorem bOpen_eq {k : Nat} (hq : 200 < k) (K : List Int → Option R) : spec_bOpen k b kind K = K (openV b kind b.2.2.2.1.length) := by
  obtain ⟨h1, h2, h3⟩ := area_ok hg
  unfold spec_bOpen
  refine loop_det (fun m i s => spec_bOpen_l0 k (fun x => K x) m kind (b.2.2.2.1.length : Int) (i : Int) b s) b.2.2.2.1.length (openV b kind) (K (openV b kind b.2.2.2.1.length)) ?_ ?_ k 0 (Nat.zero_le _) (by omega)
  · intro m i hi
    have hl := openV_len b kind i
    show spec_bOpen_l0 k _ (m + 1) kind _ (i : Int) b (openV b kind i) = spec_bOpen_l0 k _ m kind _ ((i + 1 : Nat) : Int) b (openV b kind (i + 1))
    rw [spec_bOpen_l0, dlt, decide_eq_true hi, cond_true, bCost_eq hg (by omega) hk, wsucc (by omega), openV_succ]
    by_cases h : 0 < costAt b kind (i : Int)
    · rw [decide_eq_true h, if_pos h, decide_eq_true (by unfold maxGrow; simp; omega)]; rfl
    · rw [decide_eq_false h, if_neg h]; rfl
  · intro m
    show spec_bOpen_l0 k _ (m + 1) kind _ (b.2.2.2.1.length : Int) b _ = _
    rw [spec_bOpen_l0, dlt, decide_eq_false (by omega)]; rfl
theorem openHexes_eq {k : Nat} (hq : 200 < k) (K : List Int → Option R) : impl_openHexes k b kind K = K (openV b kind b.2.2.2.1.length) := by
  obtain ⟨h1, h2, h3⟩ := area_ok hg
  unfold impl_openHexes
  refine loop_det (fun m i s => impl_openHexes_l0 k (fun x => K x) m kind (b.2.2.2.1.length : Int) (i : Int) b s) b.2.2.2.1.length (openV b kind) (K (openV b kind b.2.2.2.1.length)) ?_ ?_ k 0 (Nat.zero_le _) (by omega)
  · intro m i hi
    have hl := openV_len b kind i
    have hc := costAt_ok hg (i := (i : Int)) (by omega) hk
    show impl_openHexes_l0 k _ (m + 1) kind _ (i : Int) b (openV b kind i) = impl_openHexes_l0 k _ m kind _ ((i + 1 : Nat) : Int) b (openV b kind (i + 1))
    rw [impl_openHexes_l0, dlt, decide_eq_true hi, cond_true, enterCost_eq hg (by omega) hk, wsucc (by omega), openV_succ]
    by_cases h : 0 < costAt b kind (i : Int)
    · rw [decide_eq_false (by omega), if_pos h, decide_eq_true (by unfold maxGrow; simp; omega)]; rfl
    · rw [decide_eq_true (by omega), if_neg h]; rfl
  · intro m
    show impl_openHexes_l0 k _ (m + 1) kind _ (b.2.2.2.1.length : Int) b _ = _
    rw [impl_openHexes_l0, dlt, decide_eq_false (by omega)]; rfl
end
/-! ### unused terrains -/
end
end Go.Lg
/- Stuck kinds: the law. -/
set_option linter.unusedSimpArgs false
set_option linter.unusedVariables false
namespace Go.Lg
open Go Go.Ev
section
variable {R α σ ι : Type}
def filtV (p : Nat → Bool) (h : Nat → Int) (n : Nat) : List Int := ((List.range n).filter p).map h
theorem filtV_succ (p : Nat → Bool) (h : Nat → Int) (n : Nat) : filtV p h (n + 1) = if p n = true then filtV p h n ++ [h n] else filtV p h n := by
  unfold filtV
  rw [List.range_succ, List.filter_append, List.map_append, List.filter_cons]
  split
  · rfl
  · simp
theorem filtV_len (p : Nat → Bool) (h : Nat → Int) (n : Nat) : (filtV p h n).length ≤ n := by
  unfold filtV
  rw [List.length_map]
  exact Nat.le_trans (List.length_filter_le _ _) (by simp)
theorem filtV_mem {p : Nat → Bool} {h : Nat → Int} {n : Nat} {x : Int} (hx : x ∈ filtV p h n) : ∃ i, i < n ∧ p i = true ∧ x = h i := by
  unfold filtV at hx
  obtain ⟨i, hi, rfl⟩ := List.mem_map.1 hx
  obtain ⟨h1, h2⟩ := List.mem_filter.1 hi
  exact ⟨i, List.mem_range.1 h1, h2, rfl⟩
theorem nextOf_lt {m : MapT} (hm : mapDim m) (i d : Int) : -1 ≤ nextOf m i d ∧ nextOf m i d < m.1 * m.2.1 := by
  have ha := area_le hm
  unfold nextOf ixOf
  cases hb : (inB (step (hexAt m i) d).1 0 (m.1 - 1) && inB (step (hexAt m i) d).2 0 (m.2.1 - 1))
  · simp; omega
  · have := mul_lt_area hm hb
    simp only [cond_true]
    omega
/-- The neighbours of a hex on the map. -/
def neighV (m : MapT) (i : Int) (n : Nat) : List Int := filtV (fun d => decide (0 ≤ nextOf m i (d : Int))) (fun d => nextOf m i (d : Int)) n
theorem neighV_mem {m : MapT} (hm : mapDim m) {i x : Int} {n : Nat} (h : x ∈ neighV m i n) : 0 ≤ x ∧ x < m.1 * m.2.1 := by
  obtain ⟨d, _, h2, rfl⟩ := filtV_mem h
  have := nextOf_lt hm i (d : Int)
  simp only [decide_eq_true_eq] at h2
  omega
theorem neighboursOn_eq {k : Nat} (hk : 10 < k) {m : MapT} (hm : mapDim m) {i : Int} (hi : 0 ≤ i ∧ i ≤ 900) (K : List Int → Option R) : impl_neighboursOn k m i K = K (neighV m i 6) := by
  unfold impl_neighboursOn
  refine loop_det (fun q d s => impl_neighboursOn_l0 k (fun x => K x) q i (d : Int) m s) 6 (neighV m i) (K (neighV m i 6)) ?_ ?_ k 0 (by omega) (by omega)
  · intro q d hd
    have hl := filtV_len (fun d => decide (0 ≤ nextOf m i (d : Int))) (fun d => nextOf m i (d : Int)) d
    show impl_neighboursOn_l0 k _ (q + 1) i (d : Int) m (neighV m i d) = impl_neighboursOn_l0 k _ q i ((d + 1 : Nat) : Int) m (neighV m i (d + 1))
    rw [impl_neighboursOn_l0, decide_eq_true (by omega : (d : Int) < 6), cond_true, nextTo_eq hm hi (by omega), wsucc (by omega)]
    unfold neighV at *
    rw [filtV_succ]
    by_cases h : 0 ≤ nextOf m i (d : Int)
    · rw [decide_eq_true h, cond_true, if_pos rfl, decide_eq_true (by unfold maxGrow; simp; omega)]; rfl
    · rw [decide_eq_false h, if_neg (by simp)]; rfl
  · intro q
    show impl_neighboursOn_l0 k _ (q + 1) i ((6 : Nat) : Int) m _ = _
    rw [impl_neighboursOn_l0, decide_eq_false (by omega)]; rfl
def updL (l c : Int) : Int := if l = 0 then c else if c < l then c else l
def stuckG (b : BrdT) (kind i : Int) (l x : Int) : Int := if costAt b kind x = 0 then l else updL l (costAt b kind i)
def leastV (b : BrdT) (kind : Int) : Int := (openV b kind b.2.2.2.1.length).foldl (fun l i => (neighV b.2 i 6).foldl (stuckG b kind i) l) 0
def stuckB (b : BrdT) (kind : Int) : Bool := if leastV b kind = 0 then true else decide ((List.getD b.1.2.1 (Int.toNat kind) zKnd).2.2.1 < leastV b kind)
section
variable {b : BrdT} (hg : goodB b = true) {kind : Int} (hk : 0 ≤ kind ∧ kind < (b.1.2.1.length : Int))
include hg hk
theorem sStuck_l0 {k q : Nat} (hq : 10 < q) {i : Int} (hi : 0 ≤ i ∧ i < area b) (l : Int) (x : List Int) (u v : Int) (K0 : Int → Int → List Int → Int → Int → BrdT → Option R) : spec_bStuck_l0 k K0 q kind l i (0 : Int) x u v b = K0 kind ((neighV b.2 i 6).foldl (stuckG b kind i) l) x u v b := by
  obtain ⟨h1, h2, h3⟩ := area_ok hg
  have hm := good_dim (good_brd hg).2.1
  refine loop_det (fun q d s => spec_bStuck_l0 k K0 q kind s i (d : Int) x u v b) 6 (fun d => (neighV b.2 i d).foldl (stuckG b kind i) l) _ ?_ ?_ q 0 (by omega) (by omega)
  · intro q d hd
    have hn := nextOf_lt hm i (d : Int)
    show spec_bStuck_l0 k K0 (q + 1) kind ((neighV b.2 i d).foldl (stuckG b kind i) l) i (d : Int) x u v b = spec_bStuck_l0 k K0 q kind ((neighV b.2 i (d + 1)).foldl (stuckG b kind i) l) i ((d + 1 : Nat) : Int) x u v b
    rw [spec_bStuck_l0, decide_eq_true (by omega : (d : Int) < 6), cond_true, mNext_eq hm (by omega) (by omega), wsucc (by omega)]
    unfold neighV
    rw [filtV_succ]
    by_cases h : nextOf b.2 i (d : Int) < 0
    · rw [decide_eq_true h, if_neg (by simpa using h)]; rfl
    · have h0 : 0 ≤ nextOf b.2 i (d : Int) := by omega
      have hin : 0 ≤ nextOf b.2 i (d : Int) ∧ nextOf b.2 i (d : Int) < area b := ⟨h0, hn.2⟩
      rw [decide_eq_false h, if_pos (by simpa using h0), cond_false, bCost_eq hg hin hk, List.foldl_append]
      generalize (filtV (fun d => decide (0 ≤ nextOf b.2 i (d : Int))) (fun d => nextOf b.2 i (d : Int)) d).foldl (stuckG b kind i) l = s
      simp only [List.foldl_cons, List.foldl_nil]
      unfold stuckG updL
      by_cases hc : costAt b kind (nextOf b.2 i (d : Int)) = 0
      · rw [decide_eq_true hc, if_pos hc]; rfl
      · rw [decide_eq_false hc, if_neg hc, cond_false, bCost_eq hg hi hk]
        by_cases hs : s = 0
        · rw [decide_eq_true hs, if_pos hs]; rfl
        · rw [decide_eq_false hs, if_neg hs]
          by_cases hl : costAt b kind i < s
          · rw [decide_eq_true hl, if_pos hl]; rfl
          · rw [decide_eq_false hl, if_neg hl]; rfl
  · intro q
    show spec_bStuck_l0 k K0 (q + 1) kind _ i ((6 : Nat) : Int) x u v b = _
    rw [spec_bStuck_l0, decide_eq_false (by omega)]; rfl
theorem iStuck_l0 {k q : Nat} (hq : 10 < q) {i : Int} (hi : 0 ≤ i ∧ i < area b) (l : Int) (u v : Int) (x : List Int) (K0 : Int → Int → Int → Int → BrdT → List Int → Option R) : impl_isStuck_l0 k K0 q kind l i u v ((neighV b.2 i 6).length : Int) (0 : Int) b x (neighV b.2 i 6) = K0 kind ((neighV b.2 i 6).foldl (stuckG b kind i) l) u v b x := by
  obtain ⟨h1, h2, h3⟩ := area_ok hg
  have hm := good_dim (good_brd hg).2.1
  have hl := filtV_len (fun d => decide (0 ≤ nextOf b.2 i (d : Int))) (fun d => nextOf b.2 i (d : Int)) 6
  have hl : (neighV b.2 i 6).length ≤ 6 := hl
  have := loop_fold0 (fun q j s => impl_isStuck_l0 k K0 q kind s i u v ((neighV b.2 i 6).length : Int) (j : Int) b x (neighV b.2 i 6)) (neighV b.2 i 6) (stuckG b kind i) (fun s => K0 kind s u v b x) ?_ ?_ (m := q) (s := l) (by omega)
  · exact this
  · intro q j s hj
    have hin := neighV_mem hm (List.getElem_mem hj)
    show impl_isStuck_l0 k K0 (q + 1) kind s i u v _ (j : Int) b x (neighV b.2 i 6) = impl_isStuck_l0 k K0 q kind (stuckG b kind i s (neighV b.2 i 6)[j]) i u v _ ((j + 1 : Nat) : Int) b x (neighV b.2 i 6)
    rw [impl_isStuck_l0, dlt, d0, decide_eq_true hj, toNatC, getD_lt hj, wsucc (by omega), enterCost_eq hg hi hk, enterCost_eq hg hin hk]
    unfold stuckG updL
    by_cases hc : costAt b kind (neighV b.2 i 6)[j] = 0
    · rw [decide_eq_true hc, if_pos hc]; rfl
    · rw [decide_eq_false hc, if_neg hc]
      by_cases hs : s = 0
      · rw [decide_eq_true hs, if_pos hs]; rfl
      · rw [decide_eq_false hs, if_neg hs]
        by_cases hl : costAt b kind i < s
        · rw [decide_eq_true hl, if_pos hl]; rfl
        · rw [decide_eq_false hl, if_neg hl]; rfl
  · intro q s
    show impl_isStuck_l0 k K0 (q + 1) kind s i u v ((neighV b.2 i 6).length : Int) ((neighV b.2 i 6).length : Int) b x _ = _
    rw [impl_isStuck_l0, dlt, decide_eq_false (by omega)]; rfl
theorem openV_in {i : Nat} (hi : i < (openV b kind b.2.2.2.1.length).length) : 0 ≤ (openV b kind b.2.2.2.1.length)[i] ∧ (openV b kind b.2.2.2.1.length)[i] < area b := by
  obtain ⟨h1, h2, h3⟩ := area_ok hg
  have := openV_mem (List.getElem_mem hi)
  omega
theorem bStuck_eq {k : Nat} (hq : 200 < k) (K : Bool → Option R) : spec_bStuck k b kind K = K (stuckB b kind) := by
  obtain ⟨h1, h2, h3⟩ := area_ok hg
  have hl := openV_len b kind b.2.2.2.1.length
  unfold spec_bStuck
  rw [bOpen_eq hg hk hq]
  generalize hf : (fun (kind3 least2 : Int) (b3 : BrdT) => bif decide (least2 = (0 : Int)) then K true else bif decide ((0 : Int) ≤ kind3) && decide (kind3 < ((List.length b3.1.2.1 : Nat) : Int)) then K (decide ((List.getD b3.1.2.1 (Int.toNat kind3) ((⟨#[]⟩ : ByteArray), ((0 : Int), ((0 : Int), ((0 : Int), (false, (0 : Int))))))).2.2.1 < least2)) else none) = F
  have := loop_fold0 (fun q j s => spec_bStuck_l1 k F q kind s (openV b kind b.2.2.2.1.length) ((openV b kind b.2.2.2.1.length).length : Int) (j : Int) b) (openV b kind b.2.2.2.1.length) (fun l i => (neighV b.2 i 6).foldl (stuckG b kind i) l) (fun s => F kind s b) ?_ ?_ (m := k) (s := 0) (by omega)
  · refine Eq.trans this ?_
    rw [← hf]
    show (bif decide (leastV b kind = 0) then K true else bif decide (0 ≤ kind) && decide (kind < (b.1.2.1.length : Int)) then K (decide ((List.getD b.1.2.1 (Int.toNat kind) zKnd).2.2.1 < leastV b kind)) else none) = _
    unfold stuckB
    rw [decide_eq_true hk.1, decide_eq_true hk.2]
    by_cases h : leastV b kind = 0
    · rw [decide_eq_true h, if_pos h]; rfl
    · rw [decide_eq_false h, if_neg h]; rfl
  · intro q j s hj
    have hin := openV_in hg hk hj
    show spec_bStuck_l1 k F (q + 1) kind s _ _ (j : Int) b = spec_bStuck_l1 k F q kind ((neighV b.2 (openV b kind b.2.2.2.1.length)[j] 6).foldl (stuckG b kind (openV b kind b.2.2.2.1.length)[j]) s) _ _ ((j + 1 : Nat) : Int) b
    rw [spec_bStuck_l1, dlt, d0, decide_eq_true hj, toNatC, getD_lt hj, Bool.and_self, cond_true, cond_true, sStuck_l0 hg hk (by omega) hin, wsucc (by omega)]
  · intro q s
    show spec_bStuck_l1 k F (q + 1) kind s _ _ ((openV b kind b.2.2.2.1.length).length : Int) b = _
    rw [spec_bStuck_l1, dlt, decide_eq_false (by omega)]; rfl
theorem isStuck_eq {k : Nat} (hq : 200 < k) (K : Bool → Option R) : impl_isStuck k b kind K = K (stuckB b kind) := by
  obtain ⟨h1, h2, h3⟩ := area_ok hg
  have hm := good_dim (good_brd hg).2.1
  have hl := openV_len b kind b.2.2.2.1.length
  unfold impl_isStuck
  rw [openHexes_eq hg hk hq]
  generalize hf : (fun (kind3 least2 : Int) (b3 : BrdT) => bif decide (least2 = (0 : Int)) then K true else bif decide ((0 : Int) ≤ kind3) && decide (kind3 < ((List.length b3.1.2.1 : Nat) : Int)) then K (decide ((List.getD b3.1.2.1 (Int.toNat kind3) ((⟨#[]⟩ : ByteArray), ((0 : Int), ((0 : Int), ((0 : Int), (false, (0 : Int))))))).2.2.1 < least2)) else none) = F
  have := loop_fold0 (fun q j s => impl_isStuck_l1 k F q kind s ((openV b kind b.2.2.2.1.length).length : Int) (j : Int) b (openV b kind b.2.2.2.1.length)) (openV b kind b.2.2.2.1.length) (fun l i => (neighV b.2 i 6).foldl (stuckG b kind i) l) (fun s => F kind s b) ?_ ?_ (m := k) (s := 0) (by omega)
  · refine Eq.trans this ?_
    rw [← hf]
    show (bif decide (leastV b kind = 0) then K true else bif decide (0 ≤ kind) && decide (kind < (b.1.2.1.length : Int)) then K (decide ((List.getD b.1.2.1 (Int.toNat kind) zKnd).2.2.1 < leastV b kind)) else none) = _
    unfold stuckB
    rw [decide_eq_true hk.1, decide_eq_true hk.2]
    by_cases h : leastV b kind = 0
    · rw [decide_eq_true h, if_pos h]; rfl
    · rw [decide_eq_false h, if_neg h]; rfl
  · intro q j s hj
    have hin := openV_in hg hk hj
    show impl_isStuck_l1 k F (q + 1) kind s _ (j : Int) b _ = impl_isStuck_l1 k F q kind ((neighV b.2 (openV b kind b.2.2.2.1.length)[j] 6).foldl (stuckG b kind (openV b kind b.2.2.2.1.length)[j]) s) _ ((j + 1 : Nat) : Int) b _
    rw [impl_isStuck_l1, dlt, d0, decide_eq_true hj, toNatC, getD_lt hj, Bool.and_self, cond_true, cond_true, neighboursOn_eq (by omega) hm (by omega), iStuck_l0 hg hk (by omega) hin, wsucc (by omega)]
  · intro q s
    show impl_isStuck_l1 k F (q + 1) kind s _ ((openV b kind b.2.2.2.1.length).length : Int) b _ = _
    rw [impl_isStuck_l1, dlt, decide_eq_false (by omega)]; rfl
end
def stuckV (b : BrdT) (n : Nat) : List Int := filtV (fun i => stuckB b (i : Int)) (fun i => (i : Int)) n
theorem Stuck_same {b : BrdT} (hs : smallB b) : ∃ (v : List Int) (c : Bool), v.length ≤ 1048576 ∧ (∀ {R : Type} (K : List Int → Bool → Option R), spec_StuckKinds 4194304 b K = K v c) ∧ ∀ {R : Type} (K : List Int → Bool → Option R), impl_StuckKinds 4194304 b K = K v c := by
  cases hp : goodB b
  · exact ⟨[], false, by simp, fun K => by unfold spec_StuckKinds; rw [bGood_eq hs, hp]; rfl, fun K => by unfold impl_StuckKinds; rw [IsBoard_eq hs, hp]; rfl⟩
  · obtain ⟨_, ⟨_, h4⟩, _⟩ := good_rul (good_brd hp).1
    have hl : (stuckV b b.1.2.1.length).length ≤ b.1.2.1.length := filtV_len _ _ _
    refine ⟨stuckV b b.1.2.1.length, true, by omega, fun K => ?_, fun K => ?_⟩
    · unfold spec_StuckKinds
      rw [bGood_eq hs, hp, Bool.not_true, cond_false]
      generalize hk : (4194304 : Nat) = k
      refine loop_det (fun m i s => spec_StuckKinds_l0 k (fun x => K x true) m (b.1.2.1.length : Int) (i : Int) b s) b.1.2.1.length (stuckV b) (K (stuckV b b.1.2.1.length) true) ?_ ?_ k 0 (Nat.zero_le _) (by omega)
      · intro m i hi
        have hl : (stuckV b i).length ≤ i := filtV_len _ _ _
        show spec_StuckKinds_l0 k _ (m + 1) _ (i : Int) b (stuckV b i) = spec_StuckKinds_l0 k _ m _ ((i + 1 : Nat) : Int) b (stuckV b (i + 1))
        rw [spec_StuckKinds_l0, dlt, decide_eq_true hi, cond_true, bStuck_eq hp (by omega) (by omega), wsucc (by omega), decide_eq_true (by unfold maxGrow; simp; omega)]
        unfold stuckV
        rw [filtV_succ]
        cases h : stuckB b (i : Int) <;> rfl
      · intro m
        show spec_StuckKinds_l0 k _ (m + 1) _ (b.1.2.1.length : Int) b _ = _
        rw [spec_StuckKinds_l0, dlt, decide_eq_false (by omega)]; rfl
    · unfold impl_StuckKinds
      rw [IsBoard_eq hs, hp, Bool.not_true, cond_false]
      generalize hk : (4194304 : Nat) = k
      refine loop_det (fun m i s => impl_StuckKinds_l0 k (fun x => K x true) m (b.1.2.1.length : Int) (i : Int) b s) b.1.2.1.length (stuckV b) (K (stuckV b b.1.2.1.length) true) ?_ ?_ k 0 (Nat.zero_le _) (by omega)
      · intro m i hi
        have hl : (stuckV b i).length ≤ i := filtV_len _ _ _
        show impl_StuckKinds_l0 k _ (m + 1) _ (i : Int) b (stuckV b i) = impl_StuckKinds_l0 k _ m _ ((i + 1 : Nat) : Int) b (stuckV b (i + 1))
        rw [impl_StuckKinds_l0, dlt, decide_eq_true hi, cond_true, isStuck_eq hp (by omega) (by omega), wsucc (by omega), decide_eq_true (by unfold maxGrow; simp; omega)]
        unfold stuckV
        rw [filtV_succ]
        cases h : stuckB b (i : Int) <;> rfl
      · intro m
        show impl_StuckKinds_l0 k _ (m + 1) _ (b.1.2.1.length : Int) b _ = _
        rw [impl_StuckKinds_l0, dlt, decide_eq_false (by omega)]; rfl
theorem law_FnExactStuckKinds (b : BrdT) (w : Wf BrdTy b) (K : Bool → Option R) : laws_FnExactStuckKinds 4194304 b K = K true := by
  unfold laws_FnExactStuckKinds
  obtain ⟨r, e0, h⟩ := szBoard_ret w
  rw [e0]
  rcases h with rfl | ⟨hl, hs⟩
  · rfl
  · obtain ⟨v, c, hv, e1, e2⟩ := Stuck_same hs
    have hc := cB_le hs
    rw [decide_eq_false (by have := hl.1; omega), cond_false, toBrd_eq hs, e1, toBrd_eq hs, e2, eqIntS_self _ (by omega) (by omega), toBrd_eq hs, eqBrd_self hs, markBoard_eq hs, decide_eq_false (by omega : ¬ (1 + cB b < 0)), eqIntS_self _ (by omega) (by omega), markIntS_eq _ _ (by omega) (by omega) (by omega), heldIntS_eq _ (by omega) (by omega), decide_eq_false (by omega), decide_eq_true rfl, toBrd_eq hs, e2, eqIntS_self _ (by omega) (by omega), heldIntS_eq _ (by omega) (by omega), decide_eq_false (by omega), decide_eq_true rfl]
    simp
end
end Go.Lg
