/- Texts: tables and maps; their laws. -/
import Derived.Test.YtbfbeaghmlkjkaaGreatDoorLgCLCMCOCNDLELDMDNDO
set_option linter.unusedVariables false
set_option linter.unusedSimpArgs false
set_option linter.unusedSectionVars false
set_option linter.unusedSimpArgs false
set_option linter.unusedVariables false
namespace Go.Lg
open Go Go.Ev
section
variable {R α : Type}
theorem fold_size (f : ByteArray → α → ByteArray) (c : Nat) : ∀ (l : List α), (∀ s, ∀ x ∈ l, (f s x).size ≤ s.size + c) → ∀ s, (l.foldl f s).size ≤ s.size + c * l.length
  | [], _, s => Nat.le_refl _
  | x :: l, h, s => by
    have h1 := h s x (by simp)
    have h2 := fold_size f c l (fun s y hy => h s y (by simp [hy])) (f s x)
    have e : c * (l.length + 1) = c * l.length + c := by rw [Nat.mul_add, Nat.mul_one]
    show (l.foldl f (f s x)).size ≤ s.size + c * (l.length + 1)
    omega
theorem loop_text (L : Nat → Nat → ByteArray → Option R) (x : List α) (f : ByteArray → α → ByteArray) (c S : Nat) (fin : ByteArray → Option R) (hf : ∀ s, ∀ y ∈ x, (f s y).size ≤ s.size + c)
    (hs : ∀ m i s (h : i < x.length), s.size ≤ S + c * i → L (m + 1) i s = L m (i + 1) (f s x[i])) (he : ∀ m s, s.size ≤ S + c * x.length → L (m + 1) x.length s = fin s) : ∀ m i s, i ≤ x.length → s.size ≤ S + c * i → x.length - i < m → L m i s = fin ((x.drop i).foldl f s) := by
  intro m
  induction m with
  | zero => intro i s h1 h2 h3; omega
  | succ m ih =>
    intro i s h1 h2 h3
    rcases Nat.lt_or_ge i x.length with h | h
    · have h4 := hf s _ (List.getElem_mem h)
      have e : c * (i + 1) = c * i + c := by rw [Nat.mul_add, Nat.mul_one]
      rw [hs m i s h h2, ih (i + 1) _ (by omega) (by omega) (by omega), List.drop_eq_getElem_cons h, List.foldl_cons]
    · have : i = x.length := by omega
      subst this
      rw [he m s h2, List.drop_length]; rfl
theorem loop_text0 (L : Nat → Nat → ByteArray → Option R) (x : List α) (f : ByteArray → α → ByteArray) (c S : Nat) (fin : ByteArray → Option R) (hf : ∀ s, ∀ y ∈ x, (f s y).size ≤ s.size + c)
    (hs : ∀ m i s (h : i < x.length), s.size ≤ S + c * i → L (m + 1) i s = L m (i + 1) (f s x[i])) (he : ∀ m s, s.size ≤ S + c * x.length → L (m + 1) x.length s = fin s) {m : Nat} {s : ByteArray} (h1 : s.size ≤ S) (h2 : x.length < m) : L m 0 s = fin (x.foldl f s) := by
  have := loop_text L x f c S fin hf hs he m 0 s (Nat.zero_le _) (by omega) (by omega)
  rwa [List.drop_zero] at this
/-! ### tables -/
abbrev nl : ByteArray := ⟨#[10]⟩
def colF (s : ByteArray) (c : Int × Int) : ByteArray := s ++ (((sp ++ itoaB c.1) ++ (⟨#[47]⟩ : ByteArray)) ++ itoaB c.2)
def celF (s : ByteArray) (x : Int) : ByteArray := s ++ itoaB x
def rowF (s : ByteArray) (r : List Int) : ByteArray := r.foldl celF s ++ nl
theorem col_in {t : TabT} (hg : goodT t = true) : ∀ c ∈ t.1, (1 ≤ c.1 ∧ c.1 ≤ 20) ∧ 1 ≤ c.2 ∧ c.2 ≤ 20 := by
  intro c hc
  obtain ⟨i, hi, rfl⟩ := List.getElem_of_mem hc
  obtain ⟨_, _, _, h, _⟩ := good_tab hg
  have := h i hi
  unfold colB at this
  rw [getD_lt hi] at this
  simp only [Bool.and_eq_true, inB_iff] at this
  exact ⟨this.1, this.2.1⟩
theorem colF_size {c : Int × Int} (h : (1 ≤ c.1 ∧ c.1 ≤ 20) ∧ 1 ≤ c.2 ∧ c.2 ≤ 20) (s : ByteArray) : (colF s c).size ≤ s.size + 44 := by
  have e1 := itoaB_size (n := c.1) (by omega)
  have e2 := itoaB_size (n := c.2) (by omega)
  unfold colF
  simp only [ByteArray.size_append, sz_lit, List.length_cons, List.length_nil]
  omega
theorem celF_size {x : Int} (h : 0 ≤ x ∧ x ≤ 7) (s : ByteArray) : (celF s x).size ≤ s.size + 21 := by
  have e1 := itoaB_size (n := x) (by omega)
  unfold celF
  rw [ByteArray.size_append]
  omega
theorem rowF_size {r : List Int} (hl : r.length ≤ 8) (h : ∀ x ∈ r, 0 ≤ x ∧ x ≤ 7) (s : ByteArray) : (rowF s r).size ≤ s.size + 169 := by
  have := fold_size celF 21 r (fun s x hx => celF_size (h x hx) s) s
  have e : (nl : ByteArray).size = 1 := rfl
  unfold rowF
  rw [ByteArray.size_append, e]
  omega
def tabH (t : TabT) : ByteArray := t.1.foldl colF (⟨#[111, 100, 100, 115]⟩ : ByteArray)
def tabD (t : TabT) : ByteArray := tabH t ++ (((⟨#[32, 100, 105, 99, 101, 32]⟩ : ByteArray) ++ itoaB t.2.1) ++ nl)
def tabZ (t : TabT) : ByteArray := t.2.2.foldl rowF (tabD t)
section
variable {t : TabT} (hg : goodT t = true)
include hg
theorem tabH_size : (tabH t).size ≤ 356 := by
  obtain ⟨h1, _⟩ := good_tab hg
  have := fold_size colF 44 t.1 (fun s x hx => colF_size (col_in hg x hx) s) (⟨#[111, 100, 100, 115]⟩ : ByteArray)
  have e : ByteArray.size (⟨#[111, 100, 100, 115]⟩ : ByteArray) = 4 := rfl
  unfold tabH
  omega
theorem tabD_size : (tabD t).size ≤ 384 := by
  obtain ⟨_, hd, _⟩ := good_tab hg
  have h0 := tabH_size hg
  have e1 := itoaB_size (n := t.2.1) (by omega)
  unfold tabD
  simp only [ByteArray.size_append, sz_lit, List.length_cons, List.length_nil]
  omega
theorem rows_size : ∀ s, ∀ r ∈ t.2.2, (rowF s r).size ≤ s.size + 169 := by
  intro s r hr
  obtain ⟨h1, _, _, _, h5⟩ := good_tab hg
  have := h5 r hr
  exact rowF_size (by omega) this.2 s
theorem rows_len : t.2.2.length ≤ 11 := by
  obtain ⟨_, hd, hl, _⟩ := good_tab hg
  omega
theorem kText_l0_eq {k q : Nat} (hk : 100 ≤ k) (hq : t.1.length < q) (K0 : ByteArray → TabT → Option R) : spec_kText_l0 k K0 q (⟨#[111, 100, 100, 115]⟩ : ByteArray) t.1 (t.1.length : Int) 0 t = K0 (tabH t) t := by
  obtain ⟨h1, _⟩ := good_tab hg
  refine loop_text0 (fun m i s => spec_kText_l0 k K0 m s t.1 (t.1.length : Int) (i : Int) t) t.1 colF 44 4 (fun s => K0 s t) (fun s x hx => colF_size (col_in hg x hx) s) ?_ ?_ (by exact Nat.le_refl _) hq
  · intro m i s hi hsz
    show spec_kText_l0 k K0 (m + 1) s t.1 (t.1.length : Int) (i : Int) t = spec_kText_l0 k K0 m _ t.1 (t.1.length : Int) ((i + 1 : Nat) : Int) t
    obtain ⟨c1, c2⟩ := col_in hg _ (List.getElem_mem hi)
    have e1 := itoaB_size (n := t.1[i].1) (by omega)
    have e2 := itoaB_size (n := t.1[i].2) (by omega)
    rw [spec_kText_l0, dlt, d0, decide_eq_true hi, toNatC, getD_lt hi, wsucc (by omega)]
    repeat (first | rw [gok (by first | omega | (simp only [ByteArray.size_append, sz_lit, List.length_cons, List.length_nil]; omega))] | rw [l1Num_eq hk (by omega)])
    rfl
  · intro m s _
    show spec_kText_l0 k K0 (m + 1) s t.1 (t.1.length : Int) (t.1.length : Int) t = _
    rw [spec_kText_l0, dlt, decide_eq_false (by omega)]; rfl
theorem kText_l1_eq {k q : Nat} (hk : 100 ≤ k) {i : Nat} (hi : i < t.2.2.length) (hq : t.1.length < q) {s : ByteArray} (hs : s.size ≤ 100000) (K0 : ByteArray → List (List Int) → Int → Int → Option R) : spec_kText_l1 k K0 q s t.2.2 (t.2.2.length : Int) (i : Int) (List.getD t.2.2 i []) ((List.getD t.2.2 i []).length : Int) 0 = K0 ((List.getD t.2.2 i []).foldl celF s) t.2.2 (t.2.2.length : Int) (i : Int) := by
  obtain ⟨h1, _, _, _, h5⟩ := good_tab hg
  have hrow := h5 (List.getD t.2.2 i []) (by rw [getD_lt hi]; exact List.getElem_mem hi)
  refine loop_text0 (fun m j s => spec_kText_l1 k K0 m s t.2.2 (t.2.2.length : Int) (i : Int) (List.getD t.2.2 i []) ((List.getD t.2.2 i []).length : Int) (j : Int)) (List.getD t.2.2 i []) celF 21 100000 (fun s => K0 s t.2.2 (t.2.2.length : Int) (i : Int)) (fun s x hx => celF_size (hrow.2 x hx) s) ?_ ?_ hs (by omega)
  · intro m j s hj hsz
    show spec_kText_l1 k K0 (m + 1) s t.2.2 (t.2.2.length : Int) (i : Int) (List.getD t.2.2 i []) _ (j : Int) = spec_kText_l1 k K0 m _ t.2.2 (t.2.2.length : Int) (i : Int) (List.getD t.2.2 i []) _ ((j + 1 : Nat) : Int)
    have c1 := hrow.2 _ (List.getElem_mem hj)
    have e1 := itoaB_size (n := (List.getD t.2.2 i [])[j]) (by omega)
    rw [spec_kText_l1, dlt, d0, decide_eq_true hj, toNatC, getD_lt hj, wsucc (by omega)]
    repeat (first | rw [gok (by first | omega | (simp only [ByteArray.size_append, sz_lit, List.length_cons, List.length_nil]; omega))] | rw [l1Num_eq hk (by omega)])
    rfl
  · intro m s _
    show spec_kText_l1 k K0 (m + 1) s t.2.2 (t.2.2.length : Int) (i : Int) (List.getD t.2.2 i []) _ ((List.getD t.2.2 i []).length : Int) = _
    rw [spec_kText_l1, dlt, decide_eq_false (by omega)]; rfl
theorem kText_l2_eq {k q : Nat} (hk : 100 ≤ k) (hq : t.2.2.length < q) (K0 : ByteArray → Option R) : spec_kText_l2 k K0 q (tabD t) t.2.2 (t.2.2.length : Int) 0 = K0 (tabZ t) := by
  obtain ⟨h1, _⟩ := good_tab hg
  have hn := rows_len hg
  refine loop_text0 (fun m i s => spec_kText_l2 k K0 m s t.2.2 (t.2.2.length : Int) (i : Int)) t.2.2 rowF 169 384 K0 (rows_size hg) ?_ ?_ (tabD_size hg) hq
  · intro m i s hi hsz
    show spec_kText_l2 k K0 (m + 1) s t.2.2 (t.2.2.length : Int) (i : Int) = spec_kText_l2 k K0 m (rowF s t.2.2[i]) t.2.2 (t.2.2.length : Int) ((i + 1 : Nat) : Int)
    have hz := rows_size hg s _ (List.getElem_mem hi)
    unfold rowF at hz
    rw [ByteArray.size_append] at hz
    have e : (nl : ByteArray).size = 1 := rfl
    rw [spec_kText_l2, dlt, d0, decide_eq_true hi, toNatC, kText_l1_eq hg hk hi (by omega) (by omega), getD_lt hi, gok (by show _ + (nl : ByteArray).size ≤ _; omega), wsucc (by omega)]
    rfl
  · intro m s _
    show spec_kText_l2 k K0 (m + 1) s t.2.2 (t.2.2.length : Int) (t.2.2.length : Int) = _
    rw [spec_kText_l2, dlt, decide_eq_false (by omega)]; rfl
theorem kText_eq (K : ByteArray → Option R) : spec_kText 4194304 t K = K (tabZ t) := by
  obtain ⟨h1, hd, _⟩ := good_tab hg
  have hn := rows_len hg
  have hz := tabH_size hg
  have e1 := itoaB_size (n := t.2.1) (by omega)
  unfold spec_kText
  rw [kText_l0_eq hg (by omega) (by omega)]
  repeat (first | rw [gok (by first | omega | (simp only [ByteArray.size_append, sz_lit, List.length_cons, List.length_nil]; omega)), cond_true] | rw [l1Num_eq (by omega) (by omega)])
  exact kText_l2_eq hg (by omega) (by omega) K
theorem tableText_l0_eq {k q : Nat} (hk : 100 ≤ k) (hq : t.1.length < q) (K0 : ByteArray → TabT → Option R) : impl_tableText_l0 k K0 q (⟨#[111, 100, 100, 115]⟩ : ByteArray) t.1 (t.1.length : Int) 0 t = K0 (tabH t) t := by
  obtain ⟨h1, _⟩ := good_tab hg
  refine loop_text0 (fun m i s => impl_tableText_l0 k K0 m s t.1 (t.1.length : Int) (i : Int) t) t.1 colF 44 4 (fun s => K0 s t) (fun s x hx => colF_size (col_in hg x hx) s) ?_ ?_ (by exact Nat.le_refl _) hq
  · intro m i s hi hsz
    show impl_tableText_l0 k K0 (m + 1) s t.1 (t.1.length : Int) (i : Int) t = impl_tableText_l0 k K0 m _ t.1 (t.1.length : Int) ((i + 1 : Nat) : Int) t
    obtain ⟨c1, c2⟩ := col_in hg _ (List.getElem_mem hi)
    have e1 := itoaB_size (n := t.1[i].1) (by omega)
    have e2 := itoaB_size (n := t.1[i].2) (by omega)
    rw [impl_tableText_l0, dlt, d0, decide_eq_true hi, toNatC, getD_lt hi, wsucc (by omega)]
    repeat (first | rw [gok (by first | omega | (simp only [ByteArray.size_append, sz_lit, List.length_cons, List.length_nil]; omega))] | rw [Itoa_eq (by omega)])
    rfl
  · intro m s _
    show impl_tableText_l0 k K0 (m + 1) s t.1 (t.1.length : Int) (t.1.length : Int) t = _
    rw [impl_tableText_l0, dlt, decide_eq_false (by omega)]; rfl
theorem tableText_l1_eq {k q : Nat} (hk : 100 ≤ k) {i : Nat} (hi : i < t.2.2.length) (hq : t.1.length < q) {s : ByteArray} (hs : s.size ≤ 100000) (K0 : ByteArray → List (List Int) → Int → Int → Option R) : impl_tableText_l1 k K0 q s t.2.2 (t.2.2.length : Int) (i : Int) (List.getD t.2.2 i []) ((List.getD t.2.2 i []).length : Int) 0 = K0 ((List.getD t.2.2 i []).foldl celF s) t.2.2 (t.2.2.length : Int) (i : Int) := by
  obtain ⟨h1, _, _, _, h5⟩ := good_tab hg
  have hrow := h5 (List.getD t.2.2 i []) (by rw [getD_lt hi]; exact List.getElem_mem hi)
  refine loop_text0 (fun m j s => impl_tableText_l1 k K0 m s t.2.2 (t.2.2.length : Int) (i : Int) (List.getD t.2.2 i []) ((List.getD t.2.2 i []).length : Int) (j : Int)) (List.getD t.2.2 i []) celF 21 100000 (fun s => K0 s t.2.2 (t.2.2.length : Int) (i : Int)) (fun s x hx => celF_size (hrow.2 x hx) s) ?_ ?_ hs (by omega)
  · intro m j s hj hsz
    show impl_tableText_l1 k K0 (m + 1) s t.2.2 (t.2.2.length : Int) (i : Int) (List.getD t.2.2 i []) _ (j : Int) = impl_tableText_l1 k K0 m _ t.2.2 (t.2.2.length : Int) (i : Int) (List.getD t.2.2 i []) _ ((j + 1 : Nat) : Int)
    have c1 := hrow.2 _ (List.getElem_mem hj)
    have e1 := itoaB_size (n := (List.getD t.2.2 i [])[j]) (by omega)
    rw [impl_tableText_l1, dlt, d0, decide_eq_true hj, toNatC, getD_lt hj, wsucc (by omega)]
    repeat (first | rw [gok (by first | omega | (simp only [ByteArray.size_append, sz_lit, List.length_cons, List.length_nil]; omega))] | rw [Itoa_eq (by omega)])
    rfl
  · intro m s _
    show impl_tableText_l1 k K0 (m + 1) s t.2.2 (t.2.2.length : Int) (i : Int) (List.getD t.2.2 i []) _ ((List.getD t.2.2 i []).length : Int) = _
    rw [impl_tableText_l1, dlt, decide_eq_false (by omega)]; rfl
theorem tableText_l2_eq {k q : Nat} (hk : 100 ≤ k) (hq : t.2.2.length < q) (K0 : ByteArray → Option R) : impl_tableText_l2 k K0 q (tabD t) t.2.2 (t.2.2.length : Int) 0 = K0 (tabZ t) := by
  obtain ⟨h1, _⟩ := good_tab hg
  have hn := rows_len hg
  refine loop_text0 (fun m i s => impl_tableText_l2 k K0 m s t.2.2 (t.2.2.length : Int) (i : Int)) t.2.2 rowF 169 384 K0 (rows_size hg) ?_ ?_ (tabD_size hg) hq
  · intro m i s hi hsz
    show impl_tableText_l2 k K0 (m + 1) s t.2.2 (t.2.2.length : Int) (i : Int) = impl_tableText_l2 k K0 m (rowF s t.2.2[i]) t.2.2 (t.2.2.length : Int) ((i + 1 : Nat) : Int)
    have hz := rows_size hg s _ (List.getElem_mem hi)
    unfold rowF at hz
    rw [ByteArray.size_append] at hz
    have e : (nl : ByteArray).size = 1 := rfl
    rw [impl_tableText_l2, dlt, d0, decide_eq_true hi, toNatC, tableText_l1_eq hg hk hi (by omega) (by omega), getD_lt hi, gok (by show _ + (nl : ByteArray).size ≤ _; omega), wsucc (by omega)]
    rfl
  · intro m s _
    show impl_tableText_l2 k K0 (m + 1) s t.2.2 (t.2.2.length : Int) (t.2.2.length : Int) = _
    rw [impl_tableText_l2, dlt, decide_eq_false (by omega)]; rfl
theorem tableText_eq (K : ByteArray → Option R) : impl_tableText 4194304 t K = K (tabZ t) := by
  obtain ⟨h1, hd, _⟩ := good_tab hg
  have hn := rows_len hg
  have hz := tabH_size hg
  have e1 := itoaB_size (n := t.2.1) (by omega)
  unfold impl_tableText
  rw [tableText_l0_eq hg (by omega) (by omega)]
  repeat (first | rw [gok (by first | omega | (simp only [ByteArray.size_append, sz_lit, List.length_cons, List.length_nil]; omega)), cond_true] | rw [words1 (by first | omega | (simp only [ByteArray.size_append, sz_lit, List.length_cons, List.length_nil]; omega)) (by omega)])
  have e : tabH t ++ (((⟨#[32, 100, 105, 99, 101]⟩ : ByteArray) ++ (sp ++ itoaB t.2.1)) ++ (⟨#[10]⟩ : ByteArray)) = tabD t := by
    apply toL_inj
    unfold tabD
    simp only [toL_app, toL_lit, List.append_assoc, List.cons_append, List.nil_append]
  rw [e]
  exact tableText_l2_eq hg (by omega) (by omega) K

end
theorem TableText_same {t : TabT} (hs : smallT t) : ∃ v b, (∀ {R : Type} (K : ByteArray → Bool → Option R), spec_TableText 4194304 t K = K v b) ∧ ∀ {R : Type} (K : ByteArray → Bool → Option R), impl_TableText 4194304 t K = K v b := by
  cases hg : goodT t
  · exact ⟨⟨#[]⟩, false, fun K => by unfold spec_TableText; rw [kGood_eq hs, hg]; rfl, fun K => by unfold impl_TableText; rw [IsTab_eq hs, hg]; rfl⟩
  · exact ⟨tabZ t, true, fun K => by unfold spec_TableText; rw [kGood_eq hs, hg, Bool.not_true, cond_false, kText_eq hg], fun K => by unfold impl_TableText; rw [IsTab_eq hs, hg, Bool.not_true, cond_false, tableText_eq hg]⟩
theorem law_FnExactTableText (t : TabT) (w : Wf TabTy t) (K : Bool → Option R) : laws_FnExactTableText 4194304 t K = K true := by
  unfold laws_FnExactTableText
  rw [szT_eq (by omega) w _ inL0]
  rcases szT_ok t 1048576 inL0 with h | ⟨g1, g2, hs⟩
  · rw [h]; rfl
  · obtain ⟨v, b, e1, e2⟩ := TableText_same hs
    rw [decide_eq_false (by omega), cond_false, toTab_eq hs, e1, toTab_eq hs, e2, toTab_eq hs, eqTab_self hs]
    simp
/-! ### maps -/
def terF (m : MapT) (i : Nat) (s : ByteArray) : ByteArray := bif decide (Int.tmod (i : Int) m.1 = m.1 - 1) then (s ++ itoaB (List.getD m.2.2.1 i 0)) ++ nl else s ++ itoaB (List.getD m.2.2.1 i 0)
def mapH (m : MapT) : ByteArray := ((((⟨#[109, 97, 112, 32]⟩ : ByteArray) ++ itoaB m.1) ++ sp) ++ itoaB m.2.1) ++ nl
def mapS (m : MapT) : ByteArray := iterN (terF m) (m.2.2.1.length - 0) 0 (mapH m)
def mapZ (m : MapT) : ByteArray := (mapS m ++ (wordB (⟨#[114, 105, 118, 101, 114, 115]⟩ : ByteArray) m.2.2.2.1 ++ nl)) ++ (wordB (⟨#[114, 111, 97, 100, 115]⟩ : ByteArray) m.2.2.2.2 ++ nl)
section
variable {m : MapT} (hg : good m = true) (hs : small m)
include hg hs
omit hs in
theorem mapH_size : (mapH m).size ≤ 100 := by
  obtain ⟨d1, d2⟩ := good_dim hg
  have e1 := itoaB_size (n := m.1) (by omega)
  have e2 := itoaB_size (n := m.2.1) (by omega)
  unfold mapH
  simp only [ByteArray.size_append, sz_lit, List.length_cons, List.length_nil]
  omega
omit hs in
theorem terF_size {i : Nat} (hi : i < m.2.2.1.length) (s : ByteArray) : (terF m i s).size ≤ s.size + 22 := by
  have h := ter_ge hg _ (List.getElem_mem hi)
  have e1 := itoaB_size (n := m.2.2.1[i]) (by omega)
  have e : (nl : ByteArray).size = 1 := rfl
  unfold terF
  rw [getD_lt hi]
  cases decide (Int.tmod (i : Int) m.1 = m.1 - 1)
  · rw [cond_false, ByteArray.size_append]; omega
  · rw [cond_true, ByteArray.size_append, ByteArray.size_append, e]; omega
omit hs in
theorem mapS_size : (mapS m).size ≤ 100 + 22 * m.2.2.1.length := by
  have h0 := mapH_size hg
  exact iterN_inv (terF m) (fun i s => s.size ≤ 100 + 22 * i) m.2.2.1.length (fun i s hi h => by have := terF_size hg hi s; omega) (m.2.2.1.length - 0) 0 (mapH m) (by omega) (by omega)
omit hs in
theorem edges_ok : okN m.2.2.2.1 ∧ okN m.2.2.2.2 := by
  obtain ⟨d1, d2⟩ := good_dim hg
  have ha := area_le (good_dim hg)
  have h := hg
  unfold good at h
  simp only [Bool.and_eq_true] at h
  obtain ⟨_, _, _, _, h5, h6⟩ := h
  have gen : ∀ l, edgesB m l = true → okN l := by
    intro l hl x hx
    unfold edgesB at hl
    simp only [Bool.and_eq_true, List.all_eq_true] at hl
    have := hl.1 x hx
    unfold edgeB at this
    simp only [Bool.and_eq_true, inB_iff] at this
    omega
  exact ⟨gen _ h5, gen _ h6⟩
theorem mList_eq {k : Nat} (hk : 1048576 < k) (w : ByteArray) (l : List Int) (hw : w.size ≤ 1048576) (hl : l.length ≤ 1048576) (h : okN l) (hn : ∀ x ∈ l, 0 ≤ x) (K : ByteArray → Option R) : spec_mList k w l K = K (wordB w l ++ nl) := by
  unfold spec_mList
  have := loop_text0 (fun m i s => spec_mList_l0 k (fun word1 => bif decide (ByteArray.size word1 + ByteArray.size (⟨#[10]⟩ : ByteArray) ≤ maxGrow) then K (word1 ++ (⟨#[10]⟩ : ByteArray)) else none) m s l (l.length : Int) (i : Int)) l (fun s n => s ++ (sp ++ itoaB n)) 22 1048576 (fun s => K (s ++ nl)) ?_ ?_ ?_ (m := k) (s := w) hw (by omega)
  · exact this
  · intro s x hx
    have := h x hx
    have e1 := itoaB_size (n := x) (by omega)
    simp only [ByteArray.size_append, sz_lit, List.length_cons, List.length_nil]
    omega
  · intro m i s hi hsz
    show spec_mList_l0 k _ (m + 1) s l (l.length : Int) (i : Int) = spec_mList_l0 k _ m _ l (l.length : Int) ((i + 1 : Nat) : Int)
    have hx := h _ (List.getElem_mem hi)
    have hx0 := hn _ (List.getElem_mem hi)
    have e1 := itoaB_size (n := l[i]) (by omega)
    rw [spec_mList_l0, dlt, d0, decide_eq_true hi, toNatC, getD_lt hi, wsucc (by omega), l1Num_eq (by omega) (by omega), gok (by first | omega | (simp only [ByteArray.size_append, sz_lit, List.length_cons, List.length_nil]; omega)), gok (by first | omega | (simp only [ByteArray.size_append, sz_lit, List.length_cons, List.length_nil]; omega))]
    rfl
  · intro m s hsz
    show spec_mList_l0 k _ (m + 1) s l (l.length : Int) (l.length : Int) = _
    rw [spec_mList_l0, dlt, decide_eq_false (by omega), gok (by first | omega | (simp only [ByteArray.size_append, sz_lit, List.length_cons, List.length_nil]; omega))]; rfl
omit hs in
theorem edges_pos : (∀ x ∈ m.2.2.2.1, 0 ≤ x) ∧ ∀ x ∈ m.2.2.2.2, 0 ≤ x := by
  have h := hg
  unfold good at h
  simp only [Bool.and_eq_true] at h
  obtain ⟨_, _, _, _, h5, h6⟩ := h
  have gen : ∀ l, edgesB m l = true → ∀ x ∈ l, 0 ≤ x := by
    intro l hl x hx
    unfold edgesB at hl
    simp only [Bool.and_eq_true, List.all_eq_true] at hl
    have := hl.1 x hx
    unfold edgeB at this
    simp only [Bool.and_eq_true, inB_iff] at this
    omega
  exact ⟨gen _ h5, gen _ h6⟩
theorem mText_l0_eq {k q : Nat} (hk : 100 ≤ k) (hq : m.2.2.1.length < q) (K0 : ByteArray → MapT → Option R) : spec_mText_l0 k K0 q (mapH m) m.2.2.1 (m.2.2.1.length : Int) 0 m = K0 (mapS m) m := by
  obtain ⟨s1, s2, s3⟩ := hs
  obtain ⟨d1, d2⟩ := good_dim hg
  refine loop_inv (fun q i s => spec_mText_l0 k K0 q s m.2.2.1 (m.2.2.1.length : Int) (i : Int) m) m.2.2.1.length (terF m) (fun s => K0 s m) (fun i s => s.size ≤ 100 + 22 * i) ?_ (fun i s hi h => by have := terF_size hg hi s; omega) ?_ q 0 (mapH m) (Nat.zero_le _) (mapH_size hg) (by omega)
  · intro q i s hi hsz
    show spec_mText_l0 k K0 (q + 1) s m.2.2.1 (m.2.2.1.length : Int) (i : Int) m = spec_mText_l0 k K0 q (terF m i s) m.2.2.1 (m.2.2.1.length : Int) ((i + 1 : Nat) : Int) m
    have hx := ter_ge hg _ (List.getElem_mem hi)
    have e1 := itoaB_size (n := m.2.2.1[i]) (by omega)
    unfold terF
    rw [spec_mText_l0, dlt, d0, decide_eq_true hi, toNatC, getD_lt hi, wsucc (by omega), l1Num_eq hk (by omega), gok (by first | omega | (simp only [ByteArray.size_append, sz_lit, List.length_cons, List.length_nil]; omega)), decide_eq_false (by omega : ¬ m.1 = 0), w64 (n := m.1 - 1) (by omega)]
    cases decide (Int.tmod (i : Int) m.1 = m.1 - 1)
    · rfl
    · rw [gok (by first | omega | (simp only [ByteArray.size_append, sz_lit, List.length_cons, List.length_nil]; omega))]; rfl
  · intro q s _
    show spec_mText_l0 k K0 (q + 1) s m.2.2.1 (m.2.2.1.length : Int) (m.2.2.1.length : Int) m = _
    rw [spec_mText_l0, dlt, decide_eq_false (by omega)]; rfl
theorem mapText_l0_eq {k q : Nat} (hk : 100 ≤ k) (hq : m.2.2.1.length < q) (K0 : ByteArray → MapT → Option R) : impl_mapText_l0 k K0 q (mapH m) m.2.2.1 (m.2.2.1.length : Int) 0 m = K0 (mapS m) m := by
  obtain ⟨s1, s2, s3⟩ := hs
  obtain ⟨d1, d2⟩ := good_dim hg
  refine loop_inv (fun q i s => impl_mapText_l0 k K0 q s m.2.2.1 (m.2.2.1.length : Int) (i : Int) m) m.2.2.1.length (terF m) (fun s => K0 s m) (fun i s => s.size ≤ 100 + 22 * i) ?_ (fun i s hi h => by have := terF_size hg hi s; omega) ?_ q 0 (mapH m) (Nat.zero_le _) (mapH_size hg) (by omega)
  · intro q i s hi hsz
    show impl_mapText_l0 k K0 (q + 1) s m.2.2.1 (m.2.2.1.length : Int) (i : Int) m = impl_mapText_l0 k K0 q (terF m i s) m.2.2.1 (m.2.2.1.length : Int) ((i + 1 : Nat) : Int) m
    have hx := ter_ge hg _ (List.getElem_mem hi)
    have e1 := itoaB_size (n := m.2.2.1[i]) (by omega)
    unfold terF
    rw [impl_mapText_l0, dlt, d0, decide_eq_true hi, toNatC, getD_lt hi, wsucc (by omega), Itoa_eq (by omega), gok (by first | omega | (simp only [ByteArray.size_append, sz_lit, List.length_cons, List.length_nil]; omega)), decide_eq_false (by omega : ¬ m.1 = 0), w64 (n := m.1 - 1) (by omega)]
    cases decide (Int.tmod (i : Int) m.1 = m.1 - 1)
    · rfl
    · rw [gok (by first | omega | (simp only [ByteArray.size_append, sz_lit, List.length_cons, List.length_nil]; omega))]; rfl
  · intro q s _
    show impl_mapText_l0 k K0 (q + 1) s m.2.2.1 (m.2.2.1.length : Int) (m.2.2.1.length : Int) m = _
    rw [impl_mapText_l0, dlt, decide_eq_false (by omega)]; rfl

end
theorem mText_eq {m : MapT} (hg : good m = true) (hs : small m) (K : ByteArray → Option R) : spec_mText 4194304 m K = K (mapZ m) := by
  have hs' := hs
  obtain ⟨s1, s2, s3⟩ := hs'
  obtain ⟨d1, d2⟩ := good_dim hg
  obtain ⟨o1, o2⟩ := edges_ok hg
  obtain ⟨p1, p2⟩ := edges_pos hg
  have e1 := itoaB_size (n := m.1) (by omega)
  have e2 := itoaB_size (n := m.2.1) (by omega)
  have z1 := mapS_size hg
  have z2 := wordB_size (w := (⟨#[114, 105, 118, 101, 114, 115]⟩ : ByteArray)) o1
  have z3 := wordB_size (w := (⟨#[114, 111, 97, 100, 115]⟩ : ByteArray)) o2
  have y2 : ByteArray.size (⟨#[114, 105, 118, 101, 114, 115]⟩ : ByteArray) = 6 := rfl
  have y3 : ByteArray.size (⟨#[114, 111, 97, 100, 115]⟩ : ByteArray) = 5 := rfl
  rw [y2] at z2
  rw [y3] at z3
  unfold spec_mText
  repeat (first | rw [gok (by first | omega | (simp only [ByteArray.size_append, sz_lit, List.length_cons, List.length_nil]; omega)), cond_true] | rw [l1Num_eq (by omega) (by omega)])
  refine (mText_l0_eq hg hs (by omega) (by omega) _).trans ?_
  rw [mList_eq hg hs (by omega) _ _ (by rw [y2]; omega) s2 o1 p1, gok (by first | omega | (simp only [ByteArray.size_append, sz_lit, List.length_cons, List.length_nil]; omega)), cond_true, mList_eq hg hs (by omega) _ _ (by rw [y3]; omega) s3 o2 p2, gok (by first | omega | (simp only [ByteArray.size_append, sz_lit, List.length_cons, List.length_nil]; omega))]
  rfl
theorem mapText_eq {m : MapT} (hg : good m = true) (hs : small m) (K : ByteArray → Option R) : impl_mapText 4194304 m K = K (mapZ m) := by
  have hs' := hs
  obtain ⟨s1, s2, s3⟩ := hs'
  obtain ⟨d1, d2⟩ := good_dim hg
  obtain ⟨o1, o2⟩ := edges_ok hg
  have e1 := itoaB_size (n := m.1) (by omega)
  have e2 := itoaB_size (n := m.2.1) (by omega)
  have z1 := mapS_size hg
  have z2 := wordB_size (w := (⟨#[114, 105, 118, 101, 114, 115]⟩ : ByteArray)) o1
  have z3 := wordB_size (w := (⟨#[114, 111, 97, 100, 115]⟩ : ByteArray)) o2
  have y2 : ByteArray.size (⟨#[114, 105, 118, 101, 114, 115]⟩ : ByteArray) = 6 := rfl
  have y3 : ByteArray.size (⟨#[114, 111, 97, 100, 115]⟩ : ByteArray) = 5 := rfl
  rw [y2] at z2
  rw [y3] at z3
  have eh : wordB (⟨#[109, 97, 112]⟩ : ByteArray) [m.1, m.2.1] ++ (⟨#[10]⟩ : ByteArray) = mapH m := by
    show ((⟨#[109, 97, 112]⟩ : ByteArray) ++ (sp ++ itoaB m.1) ++ (sp ++ itoaB m.2.1)) ++ (⟨#[10]⟩ : ByteArray) = mapH m
    apply toL_inj
    unfold mapH
    simp only [toL_app, toL_lit, List.append_assoc, List.cons_append, List.nil_append]
  have ow : okN [m.1, m.2.1] := by
    intro x hx
    simp only [List.mem_cons, List.not_mem_nil, or_false] at hx
    rcases hx with rfl | rfl <;> omega
  have zw := wordB_size (w := (⟨#[109, 97, 112]⟩ : ByteArray)) ow
  have yw : ByteArray.size (⟨#[109, 97, 112]⟩ : ByteArray) = 3 := rfl
  have yl : [m.1, m.2.1].length = 2 := rfl
  rw [yw, yl] at zw
  unfold impl_mapText
  rw [wordsText_eq _ _ (by simp) (by simp) (by rw [yw]; omega) ow, gok (by first | omega | (simp only [ByteArray.size_append, sz_lit, List.length_cons, List.length_nil]; omega)), cond_true, eh]
  refine (mapText_l0_eq hg hs (by omega) (by omega) _).trans ?_
  rw [wordsText_eq _ _ (by omega) (by omega) (by rw [y2]; omega) o1, gok (by first | omega | (simp only [ByteArray.size_append, sz_lit, List.length_cons, List.length_nil]; omega)), cond_true, gok (by first | omega | (simp only [ByteArray.size_append, sz_lit, List.length_cons, List.length_nil]; omega)), cond_true, wordsText_eq _ _ (by omega) (by omega) (by rw [y3]; omega) o2, gok (by first | omega | (simp only [ByteArray.size_append, sz_lit, List.length_cons, List.length_nil]; omega)), cond_true, gok (by first | omega | (simp only [ByteArray.size_append, sz_lit, List.length_cons, List.length_nil]; omega)), cond_true]
  congr 1
  apply toL_inj
  unfold mapZ
  simp only [toL_app, List.append_assoc]

theorem MapText_same {m : MapT} (hs : small m) : ∃ v b, (∀ {R : Type} (K : ByteArray → Bool → Option R), spec_MapText 4194304 m K = K v b) ∧ ∀ {R : Type} (K : ByteArray → Bool → Option R), impl_MapText 4194304 m K = K v b := by
  cases hg : good m
  · exact ⟨⟨#[]⟩, false, fun K => by unfold spec_MapText; rw [mGood_eq hs, hg]; rfl, fun K => by unfold impl_MapText; rw [IsMap_eq hs, hg]; rfl⟩
  · exact ⟨mapZ m, true, fun K => by unfold spec_MapText; rw [mGood_eq hs, hg, Bool.not_true, cond_false, mText_eq hg hs], fun K => by unfold impl_MapText; rw [IsMap_eq hs, hg, Bool.not_true, cond_false, mapText_eq hg hs]⟩
theorem law_FnExactMapText (m : MapT) (w : Wf MapTy m) (K : Bool → Option R) : laws_FnExactMapText 4194304 m K = K true := by
  obtain ⟨r, h1, h2⟩ := szMap_ret w 1048576 (by omega)
  unfold laws_FnExactMapText
  rw [h1]
  rcases h2 with rfl | ⟨g1, g2, hs⟩
  · rfl
  · obtain ⟨v, b, e1, e2⟩ := MapText_same hs
    rw [decide_eq_false (by omega), cond_false, toMap_eq hs, e1, toMap_eq hs, e2, toMap_eq hs, eqMap_self hs]
    simp
end
end Go.Lg
/- Texts: rules and boards; their laws. -/
set_option linter.unusedSimpArgs false
set_option linter.unusedVariables false
namespace Go.Lg
open Go Go.Ev
section
variable {R α : Type}
abbrev em : ByteArray := ⟨#[]⟩
def lineF (s l : ByteArray) : ByteArray := s ++ (l ++ nl)
theorem lineF_size (s l : ByteArray) {c : Nat} (h : l.size ≤ c) : (lineF s l).size ≤ s.size + (c + 1) := by
  unfold lineF
  have e : (nl : ByteArray).size = 1 := rfl
  rw [ByteArray.size_append, ByteArray.size_append, e]; omega
theorem join_lines (x : ByteArray) (xs : List ByteArray) : joinB (x :: xs) nl ++ nl = (x :: xs).foldl lineF em := by
  apply toL_inj
  rw [toL_app]
  have e0 : toL (joinB (x :: xs) nl) = toL x ++ Lib.joinTail (toL nl) (xs.map toL) := by
    show Lib.join ((x :: xs).map fun x => x.data.toList) nl.data.toList = _
    rw [List.map_cons, Lib.join_cons]; rfl
  rw [e0]
  have gen : ∀ (xs : List ByteArray) (s x : ByteArray), toL s ++ (toL x ++ Lib.joinTail (toL nl) (xs.map toL) ++ toL nl) = toL (xs.foldl lineF (lineF s x)) := by
    intro xs
    induction xs with
    | nil => intro s x; simp [Lib.joinTail, lineF, toL_app]
    | cons y xs ih =>
      intro s x
      show _ = toL (xs.foldl lineF (lineF (lineF s x) y))
      rw [← ih (lineF s x) y]
      simp only [lineF, toL_app, List.map_cons, Lib.joinTail, List.flatten_cons, List.append_assoc]
  have := gen xs em x
  exact this
/-! ### limits -/
def limV (r : RulT) : List Int := [r.2.2.1, r.2.2.2.1, r.2.2.2.2.1, r.2.2.2.2.2.1, r.2.2.2.2.2.2]
def limL (r : RulT) (i : Nat) : ByteArray := List.getD impl_limitNames i em ++ (sp ++ itoaB (List.getD (limV r) i 0))
theorem bfValues_eq (r : RulT) (K : List Int → Option R) : spec_bfValues r K = K (limV r) := rfl
theorem lim_name {i : Nat} (h : i < 5) : (List.getD impl_limitNames i em).size ≤ 6 := by
  have : i = 0 ∨ i = 1 ∨ i = 2 ∨ i = 3 ∨ i = 4 := by omega
  rcases this with rfl | rfl | rfl | rfl | rfl <;> decide
theorem lim_val {r : RulT} (h : limB r = true) {i : Nat} (hi : i < 5) : 0 ≤ List.getD (limV r) i 0 ∧ List.getD (limV r) i 0 ≤ 30 := by
  unfold limB at h
  simp only [Bool.and_eq_true, inB_iff] at h
  have : i = 0 ∨ i = 1 ∨ i = 2 ∨ i = 3 ∨ i = 4 := by omega
  rcases this with rfl | rfl | rfl | rfl | rfl
  · show 0 ≤ r.2.2.1 ∧ r.2.2.1 ≤ 30; omega
  · show 0 ≤ r.2.2.2.1 ∧ r.2.2.2.1 ≤ 30; omega
  · show 0 ≤ r.2.2.2.2.1 ∧ r.2.2.2.2.1 ≤ 30; omega
  · show 0 ≤ r.2.2.2.2.2.1 ∧ r.2.2.2.2.2.1 ≤ 30; omega
  · show 0 ≤ r.2.2.2.2.2.2 ∧ r.2.2.2.2.2.2 ≤ 30; omega
theorem limL_size {r : RulT} (h : limB r = true) {i : Nat} (hi : i < 5) : (limL r i).size ≤ 28 := by
  have h1 := lim_name hi
  have h2 := lim_val h hi
  have e1 := itoaB_size (n := List.getD (limV r) i 0) (by omega)
  unfold limL
  simp only [ByteArray.size_append, sz_lit, List.length_cons, List.length_nil]
  omega
def limF (r : RulT) (s : ByteArray) (i : Nat) : ByteArray := lineF s (limL r i)
def kndF (s : ByteArray) (t : KndT) : ByteArray := lineF s (kindZ t)
def trnF (s : ByteArray) (t : TerT) : ByteArray := lineF s (terZ t)
def rulS (r : RulT) : ByteArray := (List.range 5).foldl (limF r) em
def rulK (r : RulT) : ByteArray := r.2.1.foldl kndF (rulS r)
def rulZ (r : RulT) : ByteArray := r.1.foldl trnF (rulK r)
section
variable {r : RulT} (hg : goodR r = true)
include hg
theorem kndZ_in : ∀ t ∈ r.2.1, t.1.size ≤ 8 ∧ (0 ≤ t.2.1 ∧ t.2.1 ≤ 9) ∧ (0 ≤ t.2.2.1 ∧ t.2.2.1 ≤ 9) ∧ (0 ≤ t.2.2.2.1 ∧ t.2.2.2.1 ≤ 9) ∧ 0 ≤ t.2.2.2.2.2 ∧ t.2.2.2.2.2 ≤ 9 := by
  intro t ht
  obtain ⟨i, hi, rfl⟩ := List.getElem_of_mem ht
  have := knd_ok hg (i := (i : Int)) (by omega) (by omega)
  rw [toNatC, getD_lt hi] at this
  exact this
theorem trnZ_in : ∀ t ∈ r.1, t.1.size ≤ 8 ∧ t.2.1.length ≤ 4 ∧ (∀ x ∈ t.2.1, 0 ≤ x ∧ x ≤ 9) ∧ (-3 ≤ t.2.2.1 ∧ t.2.2.1 ≤ 3) ∧ 0 ≤ t.2.2.2.1 ∧ t.2.2.2.1 ≤ 3 := by
  intro t ht
  obtain ⟨i, hi, rfl⟩ := List.getElem_of_mem ht
  have := ter_ok hg (i := (i : Int)) (by omega) (by omega)
  rw [toNatC, getD_lt hi] at this
  exact this
theorem kndZ_size : ∀ t ∈ r.2.1, (kindZ t).size ≤ 200 := by
  intro t ht
  obtain ⟨k1, k2, k3, k4, k5⟩ := kndZ_in hg t ht
  have e1 := itoaB_size (n := t.2.1) (by omega)
  have e2 := itoaB_size (n := t.2.2.1) (by omega)
  have e3 := itoaB_size (n := t.2.2.2.1) (by omega)
  have e4 := itoaB_size (n := t.2.2.2.2.2) (by omega)
  unfold kindZ kindL
  cases t.2.2.2.2.1
  · rw [cond_false]; simp only [ByteArray.size_append, sz_lit, List.length_cons, List.length_nil]; omega
  · rw [cond_true]; simp only [ByteArray.size_append, sz_lit, List.length_cons, List.length_nil]; omega
theorem trnZ_size : ∀ t ∈ r.1, (terZ t).size ≤ 210 := by
  intro t ht
  obtain ⟨k1, k2, k3, k4, k5⟩ := trnZ_in hg t ht
  have h := terL_size k1 k2 k3 k4 k5
  unfold terZ
  cases t.2.2.2.2
  · rw [cond_false]; omega
  · rw [cond_true]; simp only [ByteArray.size_append, sz_lit, List.length_cons, List.length_nil]; omega
theorem limF_size : ∀ s, ∀ i ∈ List.range 5, (limF r s i).size ≤ s.size + 29 := fun s i hi => lineF_size _ _ (limL_size (good_rul hg).2.2.2.2 (by simpa using hi))
theorem kndF_size : ∀ s, ∀ t ∈ r.2.1, (kndF s t).size ≤ s.size + 201 := fun s t ht => lineF_size _ _ (kndZ_size hg t ht)
theorem trnF_size : ∀ s, ∀ t ∈ r.1, (trnF s t).size ≤ s.size + 211 := fun s t ht => lineF_size _ _ (trnZ_size hg t ht)
theorem rulS_size : (rulS r).size ≤ 145 := by
  have := fold_size (limF r) 29 (List.range 5) (limF_size hg) em
  have e : (em : ByteArray).size = 0 := rfl
  unfold rulS
  rw [List.length_range] at this
  omega
theorem rulK_size : (rulK r).size ≤ 949 := by
  have h0 := rulS_size hg
  have := fold_size kndF 201 r.2.1 (kndF_size hg) (rulS r)
  have := (good_rul hg).2.1
  unfold rulK
  omega
theorem rulZ_size : (rulZ r).size ≤ 2215 := by
  have h0 := rulK_size hg
  have := fold_size trnF 211 r.1 (trnF_size hg) (rulK r)
  have := (good_rul hg).1
  unfold rulZ
  omega
theorem bfText_l0_eq {k q : Nat} (hk : 100 ≤ k) (hq : 5 < q) (K0 : ByteArray → RulT → Option R) : spec_bfText_l0 k K0 q em impl_limitNames ((impl_limitNames).length : Int) 0 r = K0 (rulS r) r := by
  have hlim := (good_rul hg).2.2.2.2
  refine loop_text0 (fun m i s => spec_bfText_l0 k K0 m s impl_limitNames ((5 : Nat) : Int) (i : Int) r) (List.range 5) (limF r) 29 0 (fun s => K0 s r) (limF_size hg) ?_ ?_ (by exact Nat.le_refl _) (by simpa using hq)
  · intro m i s hi hsz
    have hi5 : i < 5 := by simpa using hi
    show spec_bfText_l0 k K0 (m + 1) s impl_limitNames ((5 : Nat) : Int) (i : Int) r = spec_bfText_l0 k K0 m (limF r s ((List.range 5)[i]'hi)) impl_limitNames ((5 : Nat) : Int) ((i + 1 : Nat) : Int) r
    rw [List.getElem_range hi]
    have h1 : (List.getD impl_limitNames i (⟨#[]⟩ : ByteArray)).size ≤ 6 := lim_name hi5
    have h2 := lim_val hlim hi5
    have e1 := itoaB_size (n := List.getD (limV r) i 0) (by omega)
    have hl1 : (impl_limitNames).length = 5 := rfl
    have hl2 : (limV r).length = 5 := rfl
    rw [spec_bfText_l0, bfValues_eq, dlt, d0, decide_eq_true hi5, hl1, dlt, decide_eq_true hi5, toNatC, wsucc (by omega), hl2, dlt, decide_eq_true hi5, l1Num_eq hk (by omega)]
    repeat (rw [gok (by first | omega | (simp only [ByteArray.size_append, sz_lit, List.length_cons, List.length_nil]; omega))])
    have e : s ++ (((List.getD impl_limitNames i (⟨#[]⟩ : ByteArray) ++ (⟨#[32]⟩ : ByteArray)) ++ itoaB (List.getD (limV r) i 0)) ++ (⟨#[10]⟩ : ByteArray)) = limF r s i := by
      apply toL_inj
      unfold limF lineF limL
      simp only [toL_app, List.append_assoc]
    rw [e]
    rfl
  · intro m s _
    show spec_bfText_l0 k K0 (m + 1) s impl_limitNames ((5 : Nat) : Int) ((5 : Nat) : Int) r = _
    rw [spec_bfText_l0, dlt, decide_eq_false (by omega)]; rfl
theorem bfText_l1_eq {k q : Nat} (hkk : 4194304 = k) (hq : r.2.1.length < q) (K0 : ByteArray → RulT → Option R) : spec_bfText_l1 k K0 q (rulS r) r.2.1 (r.2.1.length : Int) 0 r = K0 (rulK r) r := by
  have hn := (good_rul hg).2.1
  refine loop_text0 (fun m i s => spec_bfText_l1 k K0 m s r.2.1 (r.2.1.length : Int) (i : Int) r) r.2.1 kndF 201 145 (fun s => K0 s r) (kndF_size hg) ?_ ?_ (rulS_size hg) hq
  · intro m i s hi hsz
    show spec_bfText_l1 k K0 (m + 1) s r.2.1 (r.2.1.length : Int) (i : Int) r = spec_bfText_l1 k K0 m (kndF s r.2.1[i]) r.2.1 (r.2.1.length : Int) ((i + 1 : Nat) : Int) r
    obtain ⟨k1, k2, k3, k4, k5⟩ := kndZ_in hg _ (List.getElem_mem hi)
    have hz := kndZ_size hg _ (List.getElem_mem hi)
    rw [spec_bfText_l1, dlt, d0, decide_eq_true hi, toNatC, getD_lt hi, wsucc (by omega), ← hkk, bfKind_eq k1 k2 k3 k4 k5, gok (by first | omega | (simp only [ByteArray.size_append, sz_lit, List.length_cons, List.length_nil]; omega)), gok (by first | omega | (simp only [ByteArray.size_append, sz_lit, List.length_cons, List.length_nil]; omega))]
    rfl
  · intro m s _
    show spec_bfText_l1 k K0 (m + 1) s r.2.1 (r.2.1.length : Int) (r.2.1.length : Int) r = _
    rw [spec_bfText_l1, dlt, decide_eq_false (by omega)]; rfl
theorem bfText_l2_eq {k q : Nat} (hkk : 4194304 = k) (hq : r.1.length < q) (K0 : ByteArray → Option R) : spec_bfText_l2 k K0 q (rulK r) r.1 (r.1.length : Int) 0 = K0 (rulZ r) := by
  have hn := (good_rul hg).1
  refine loop_text0 (fun m i s => spec_bfText_l2 k K0 m s r.1 (r.1.length : Int) (i : Int)) r.1 trnF 211 949 K0 (trnF_size hg) ?_ ?_ (rulK_size hg) hq
  · intro m i s hi hsz
    show spec_bfText_l2 k K0 (m + 1) s r.1 (r.1.length : Int) (i : Int) = spec_bfText_l2 k K0 m (trnF s r.1[i]) r.1 (r.1.length : Int) ((i + 1 : Nat) : Int)
    obtain ⟨k1, k2, k3, k4, k5⟩ := trnZ_in hg _ (List.getElem_mem hi)
    have hz := trnZ_size hg _ (List.getElem_mem hi)
    rw [spec_bfText_l2, dlt, d0, decide_eq_true hi, toNatC, getD_lt hi, wsucc (by omega), ← hkk, bfTerrain_eq k1 k2 k3 k4 k5, gok (by first | omega | (simp only [ByteArray.size_append, sz_lit, List.length_cons, List.length_nil]; omega)), gok (by first | omega | (simp only [ByteArray.size_append, sz_lit, List.length_cons, List.length_nil]; omega))]
    rfl
  · intro m s _
    show spec_bfText_l2 k K0 (m + 1) s r.1 (r.1.length : Int) (r.1.length : Int) = _
    rw [spec_bfText_l2, dlt, decide_eq_false (by omega)]; rfl
theorem bfText_eq (K : ByteArray → Option R) : spec_bfText 4194304 r K = K (rulZ r) := by
  have hn := good_rul hg
  have gen : ∀ k, 4194304 = k → spec_bfText k r K = K (rulZ r) := by
    intro k hkk
    unfold spec_bfText
    refine (bfText_l0_eq hg (by omega) (by omega) _).trans ?_
    refine (bfText_l1_eq hg hkk (by omega) _).trans ?_
    exact bfText_l2_eq hg hkk (by omega) _
  exact gen _ rfl
/-! the program's lines -/
def limsL (r : RulT) : List ByteArray := (List.range 5).map (limL r)
theorem rulesText_l0_eq {k q : Nat} (hkk : 4194304 = k) (hq : 5 < q) (K0 : RulT → List ByteArray → Option R) : impl_rulesText_l0 k K0 q (limV r) 0 r [] = K0 r (limsL r) := by
  have hlim := (good_rul hg).2.2.2.2
  refine loop_det (fun m i out => impl_rulesText_l0 k K0 m (limV r) (i : Int) r out) 5 (fun i => (List.range i).map (limL r)) (K0 r (limsL r)) ?_ ?_ q 0 (Nat.zero_le _) (by omega)
  · intro m i hi
    show impl_rulesText_l0 k K0 (m + 1) (limV r) (i : Int) r ((List.range i).map (limL r)) = impl_rulesText_l0 k K0 m (limV r) ((i + 1 : Nat) : Int) r ((List.range (i + 1)).map (limL r))
    have h1 : (List.getD impl_limitNames i (⟨#[]⟩ : ByteArray)).size ≤ 6 := lim_name hi
    have h2 := lim_val hlim hi
    rw [impl_rulesText_l0, decide_eq_true (by omega : (i : Int) < 5), d0, toNatC, wsucc (by omega), ← hkk, words1 (by omega) (by omega), decide_eq_true (by unfold maxGrow; simp; omega), List.range_succ, List.map_append]
    rfl
  · intro m
    show impl_rulesText_l0 k K0 (m + 1) (limV r) ((5 : Nat) : Int) r _ = _
    rw [impl_rulesText_l0, decide_eq_false (by omega)]; rfl
theorem rulesText_l1_eq {k q : Nat} (hkk : 4194304 = k) (hq : r.2.1.length < q) (ls : List ByteArray) (hls : ls.length ≤ 5) (K0 : RulT → List ByteArray → Option R) : impl_rulesText_l1 k K0 q r.2.1 (r.2.1.length : Int) 0 r ls = K0 r (ls ++ r.2.1.map kindZ) := by
  have hn := (good_rul hg).2.1
  have h0 : ls = ls ++ (r.2.1.take 0).map kindZ := by simp
  conv => lhs; rw [h0]
  refine loop_det (fun m i out => impl_rulesText_l1 k K0 m r.2.1 (r.2.1.length : Int) (i : Int) r out) r.2.1.length (fun i => ls ++ (r.2.1.take i).map kindZ) (K0 r (ls ++ r.2.1.map kindZ)) ?_ ?_ q 0 (Nat.zero_le _) (by omega)
  · intro m i hi
    show impl_rulesText_l1 k K0 (m + 1) r.2.1 (r.2.1.length : Int) (i : Int) r (ls ++ (r.2.1.take i).map kindZ) = impl_rulesText_l1 k K0 m r.2.1 (r.2.1.length : Int) ((i + 1 : Nat) : Int) r (ls ++ (r.2.1.take (i + 1)).map kindZ)
    obtain ⟨k1, k2, k3, k4, k5⟩ := kndZ_in hg _ (List.getElem_mem hi)
    rw [impl_rulesText_l1, dlt, d0, decide_eq_true hi, toNatC, getD_lt hi, wsucc (by omega), ← hkk, kindLine_eq k1 k2 k3 k4 k5, decide_eq_true (by unfold maxGrow; simp; omega), List.take_succ_eq_append_getElem hi, List.map_append, ← List.append_assoc]
    rfl
  · intro m
    show impl_rulesText_l1 k K0 (m + 1) r.2.1 (r.2.1.length : Int) (r.2.1.length : Int) r _ = _
    rw [impl_rulesText_l1, dlt, decide_eq_false (by omega), List.take_length]; rfl
theorem rulesText_l2_eq {k q : Nat} (hkk : 4194304 = k) (hq : r.1.length < q) (ls : List ByteArray) (hls : ls.length ≤ 9) (K0 : List ByteArray → Option R) : impl_rulesText_l2 k K0 q r.1 (r.1.length : Int) 0 ls = K0 (ls ++ r.1.map terZ) := by
  have hn := (good_rul hg).1
  have h0 : ls = ls ++ (r.1.take 0).map terZ := by simp
  conv => lhs; rw [h0]
  refine loop_det (fun m i out => impl_rulesText_l2 k K0 m r.1 (r.1.length : Int) (i : Int) out) r.1.length (fun i => ls ++ (r.1.take i).map terZ) (K0 (ls ++ r.1.map terZ)) ?_ ?_ q 0 (Nat.zero_le _) (by omega)
  · intro m i hi
    show impl_rulesText_l2 k K0 (m + 1) r.1 (r.1.length : Int) (i : Int) (ls ++ (r.1.take i).map terZ) = impl_rulesText_l2 k K0 m r.1 (r.1.length : Int) ((i + 1 : Nat) : Int) (ls ++ (r.1.take (i + 1)).map terZ)
    obtain ⟨k1, k2, k3, k4, k5⟩ := trnZ_in hg _ (List.getElem_mem hi)
    rw [impl_rulesText_l2, dlt, d0, decide_eq_true hi, toNatC, getD_lt hi, wsucc (by omega), ← hkk, terrainLine_eq k1 k2 k3 k4 k5, decide_eq_true (by unfold maxGrow; simp; omega), List.take_succ_eq_append_getElem hi, List.map_append, ← List.append_assoc]
    rfl
  · intro m
    show impl_rulesText_l2 k K0 (m + 1) r.1 (r.1.length : Int) (r.1.length : Int) _ = _
    rw [impl_rulesText_l2, dlt, decide_eq_false (by omega), List.take_length]; rfl
theorem lines_fold : ((limsL r ++ r.2.1.map kindZ) ++ r.1.map terZ).foldl lineF em = rulZ r := by
  rw [List.foldl_append, List.foldl_append]
  unfold limsL rulZ rulK rulS
  rw [List.foldl_map, List.foldl_map, List.foldl_map]
  rfl
theorem rulesText_eq (K : ByteArray → Option R) : impl_rulesText 4194304 r K = K (rulZ r) := by
  obtain ⟨n1, n2, _⟩ := good_rul hg
  have hz := rulZ_size hg
  generalize hkk : (4194304 : Nat) = k
  unfold impl_rulesText
  refine (rulesText_l0_eq hg hkk (by omega) _).trans ?_
  refine (rulesText_l1_eq hg hkk (by omega) _ (by unfold limsL; simp) _).trans ?_
  refine (rulesText_l2_eq hg hkk (by omega) _ (by unfold limsL; simp; omega) _).trans ?_
  have hf := lines_fold hg
  obtain ⟨x, xs, hx⟩ : ∃ x xs, (limsL r ++ r.2.1.map kindZ) ++ r.1.map terZ = x :: xs := ⟨limL r 0, _, rfl⟩
  have hlen : ((limsL r ++ r.2.1.map kindZ) ++ r.1.map terZ).length ≤ 15 := by unfold limsL; simp; omega
  rw [hx] at hf hlen ⊢
  rw [← join_lines] at hf
  have hs : (joinB (x :: xs) nl).size + 1 ≤ 2215 := by
    have := hz
    rw [← hf, ByteArray.size_append] at this
    exact this
  unfold strings_Join
  have e : (Lib.join ((x :: xs).map fun x => x.data.toList) nl.data.toList).length = (joinB (x :: xs) nl).size := by rw [size_toL]; rfl
  rw [e, decide_eq_true (by omega), decide_eq_true (by omega)]
  have en : (nl : ByteArray).size = 1 := rfl
  show (bif decide ((joinB (x :: xs) nl).size + (nl : ByteArray).size ≤ maxGrow) then K (joinB (x :: xs) nl ++ nl) else none) = _
  rw [gok (by omega), cond_true, hf]
end
theorem RulesText_same {r : RulT} (hs : smallR r) : ∃ v b, (∀ {R : Type} (K : ByteArray → Bool → Option R), spec_RulesText 4194304 r K = K v b) ∧ ∀ {R : Type} (K : ByteArray → Bool → Option R), impl_RulesText 4194304 r K = K v b := by
  cases hg : goodR r
  · exact ⟨⟨#[]⟩, false, fun K => by unfold spec_RulesText; rw [rGood_eq hs, hg]; rfl, fun K => by unfold impl_RulesText; rw [IsRules_eq hs, hg]; rfl⟩
  · exact ⟨rulZ r, true, fun K => by unfold spec_RulesText; rw [rGood_eq hs, hg, Bool.not_true, cond_false, bfText_eq hg], fun K => by unfold impl_RulesText; rw [IsRules_eq hs, hg, Bool.not_true, cond_false, rulesText_eq hg]⟩
theorem law_FnExactRulesText (r : RulT) (w : Wf RulTy r) (K : Bool → Option R) : laws_FnExactRulesText 4194304 r K = K true := by
  unfold laws_FnExactRulesText
  rw [szR_eq (by omega) (wfRul w) _ inL0]
  rcases szR_ok r 1048576 inL0 with h | ⟨g1, g2, hs⟩
  · rw [h]; rfl
  · obtain ⟨v, b, e1, e2⟩ := RulesText_same hs
    rw [decide_eq_false (by omega), cond_false, toRul_eq hs, e1, toRul_eq hs, e2, toRul_eq hs, eqRul_self hs]
    simp
theorem mapZ_size {m : MapT} (hg : good m = true) (hs : small m) : (mapZ m).size ≤ 100000000 := by
  have hs' := hs
  obtain ⟨s1, s2, s3⟩ := hs'
  obtain ⟨o1, o2⟩ := edges_ok hg
  have z1 := mapS_size hg
  have z2 := wordB_size (w := (⟨#[114, 105, 118, 101, 114, 115]⟩ : ByteArray)) o1
  have z3 := wordB_size (w := (⟨#[114, 111, 97, 100, 115]⟩ : ByteArray)) o2
  have y2 : ByteArray.size (⟨#[114, 105, 118, 101, 114, 115]⟩ : ByteArray) = 6 := rfl
  have y3 : ByteArray.size (⟨#[114, 111, 97, 100, 115]⟩ : ByteArray) = 5 := rfl
  rw [y2] at z2
  rw [y3] at z3
  have en : (nl : ByteArray).size = 1 := rfl
  unfold mapZ
  rw [ByteArray.size_append, ByteArray.size_append, ByteArray.size_append, ByteArray.size_append, en]
  omega
theorem BoardText_same {b : BrdT} (hs : smallB b) : ∃ v c, (∀ {R : Type} (K : ByteArray → Bool → Option R), spec_BoardText 4194304 b K = K v c) ∧ ∀ {R : Type} (K : ByteArray → Bool → Option R), impl_BoardText 4194304 b K = K v c := by
  cases hg : goodB b
  · exact ⟨⟨#[]⟩, false, fun K => by unfold spec_BoardText; rw [bGood_eq hs, hg]; rfl, fun K => by unfold impl_BoardText; rw [IsBoard_eq hs, hg]; rfl⟩
  · obtain ⟨hr, hm, _⟩ := good_brd hg
    have z1 := rulZ_size hr
    have z2 := mapZ_size hm hs.2
    exact ⟨rulZ b.1 ++ mapZ b.2, true, fun K => by unfold spec_BoardText spec_bfBoard; rw [bGood_eq hs, hg, Bool.not_true, cond_false, bfText_eq hr, mText_eq hm hs.2, gok (by omega), cond_true],
      fun K => by unfold impl_BoardText impl_boardText; rw [IsBoard_eq hs, hg, Bool.not_true, cond_false, rulesText_eq hr, mapText_eq hm hs.2, gok (by omega), cond_true]⟩
theorem law_FnExactBoardText (b : BrdT) (w : Wf BrdTy b) (K : Bool → Option R) : laws_FnExactBoardText 4194304 b K = K true := by
  obtain ⟨r, h1, h2⟩ := szBoard_ret w
  unfold laws_FnExactBoardText
  rw [h1]
  rcases h2 with rfl | ⟨⟨g1, g2⟩, hs⟩
  · rfl
  · obtain ⟨v, c, e1, e2⟩ := BoardText_same hs
    rw [decide_eq_false (by omega), cond_false, toBrd_eq hs, e1, toBrd_eq hs, e2, toBrd_eq hs, eqBrd_self hs]
    simp
end
end Go.Lg
