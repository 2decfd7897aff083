/- Rules: what the functions answer; their laws. -/
import Derived.Test.YtbfbeaghmlkjkaaGreatDoorLg1
set_option linter.unusedVariables false
set_option linter.unusedSimpArgs false
set_option linter.unusedSectionVars false
set_option linter.unusedSimpArgs false
set_option linter.unusedVariables false
namespace Go.Lg
open Go Go.Ev
section
variable {R α : Type}
abbrev TerT := ByteArray × (List Int) × Int × Int × Bool
abbrev KndT := ByteArray × Int × Int × Int × Bool × Int
abbrev RulT := (List TerT) × (List KndT) × Int × Int × Int × Int × Int
abbrev TerTy : Ty := .st (.pair .str (.pair (.sl (.int .i64)) (.pair (.int .i64) (.pair (.int .i64) .bool))))
abbrev KndTy : Ty := .st (.pair .str (.pair (.int .i64) (.pair (.int .i64) (.pair (.int .i64) (.pair .bool (.int .i64))))))
abbrev RulTy : Ty := .st (.pair (.sl TerTy) (.pair (.sl KndTy) (.pair (.int .i64) (.pair (.int .i64) (.pair (.int .i64) (.pair (.int .i64) (.int .i64)))))))
theorem wfStr {s : ByteArray} (w : Wf .str s) : s.size ≤ 9223372036854775807 := by
  have : maxLen = 9223372036854775807 := by decide
  have h : s.size ≤ maxLen := w
  omega
def wideR (r : RulT) : Prop := r.1.length ≤ 9223372036854775807 ∧ r.2.1.length ≤ 9223372036854775807 ∧ (∀ t ∈ r.1, t.1.size ≤ 9223372036854775807 ∧ t.2.1.length ≤ 9223372036854775807) ∧ ∀ t ∈ r.2.1, t.1.size ≤ 9223372036854775807
theorem wfRul {r : RulT} (w : Wf RulTy r) : wideR r := by
  obtain ⟨w1, w2, _⟩ := w
  refine ⟨(wfSl w1).1, (wfSl w2).1, fun t ht => ?_, fun t ht => ?_⟩
  · obtain ⟨g1, g2, _⟩ := (wfSl w1).2 t ht
    exact ⟨wfStr g1, (wfSl g2).1⟩
  · obtain ⟨g1, _⟩ := (wfSl w2).2 t ht
    exact wfStr g1
def smallR (r : RulT) : Prop := r.1.length ≤ 1048576 ∧ r.2.1.length ≤ 1048576 ∧ (∀ t ∈ r.1, t.1.size ≤ 1048576 ∧ t.2.1.length ≤ 1048576) ∧ ∀ t ∈ r.2.1, t.1.size ≤ 1048576
/-! ### sizes -/
def szTe (t : TerT) (left : Int) : Int := if szI t.1.size left < 0 then -1 else szI t.2.1.length (szI t.1.size left)
theorem szTe_b (t : TerT) (left : Int) (hl : inL left) : szTe t left ≤ left ∧ -1 ≤ szTe t left := by
  unfold szTe
  have h1 := szI_b t.1.size left hl
  have h0 := hl.1
  have h2 := hl.2
  split
  · omega
  · have := szI_b t.2.1.length (szI t.1.size left) ⟨by omega, by omega⟩
    omega
theorem szTe_ok (t : TerT) (left : Int) (hl : inL left) : szTe t left = -1 ∨ (0 ≤ szTe t left ∧ szTe t left ≤ left ∧ t.1.size ≤ 1048576 ∧ t.2.1.length ≤ 1048576) := by
  unfold szTe
  have h0 := hl.2
  rcases szI_cases t.1.size left hl.1 with h1 | ⟨h1, h2, h3⟩
  · left; rw [if_pos (by omega)]
  · rw [if_neg (by omega)]
    rcases szI_cases t.2.1.length (szI t.1.size left) h1 with g1 | ⟨g1, g2, g3⟩
    · exact .inl g1
    · exact .inr ⟨g1, by omega, by omega, by omega⟩
theorem szTerrain_eq (t : TerT) (left : Int) (hl : inL left) (w1 : t.1.size ≤ 9223372036854775807) (w2 : t.2.1.length ≤ 9223372036854775807) (K : Int → Option R) : laws_szTerrain t left K = K (szTe t left) := by
  have hl' := hl
  unfold inL at hl'
  unfold laws_szTerrain szTe szI
  rw [w64 (by omega)]
  by_cases h : (t.1.size : Int) ≤ left
  · rw [decide_eq_false (by omega), if_pos h, if_neg (by omega), cond_false, szIntS_eq _ _ ⟨by omega, by omega⟩ w2]
    unfold szI
    by_cases h2 : (t.2.1.length : Int) ≤ left - t.1.size
    · rw [if_pos h2, decide_eq_false (by omega)]; rfl
    · rw [if_neg h2]; rfl
  · rw [decide_eq_true (by omega), if_neg h]; rfl
theorem szTerrainS_eq {k : Nat} (hk : 1048576 < k) (a : List TerT) (left : Int) (hl : inL left) (ha : a.length ≤ 9223372036854775807) (hb : ∀ t ∈ a, t.1.size ≤ 9223372036854775807 ∧ t.2.1.length ≤ 9223372036854775807) (K : Int → Option R) : laws_szTerrainS k a left K = K (szS szTe a left) := by
  refine szS_eq hk szTe a ha (fun K => laws_szTerrainS k a left K) (fun m a left i => laws_szTerrainS_l0 k (fun x => K x) (fun x => K x) m a left i) K left hl rfl ?_ ?_ (fun y _ left hl => szTe_b _ _ hl)
  · intro m i left h hs hl
    show laws_szTerrainS_l0 k _ _ (m + 1) a left (i : Int) = bif decide (szTe a[i] left < 0) then K (-1) else laws_szTerrainS_l0 k _ _ m a (szTe a[i] left) ((i + 1 : Nat) : Int)
    have := hb _ (List.getElem_mem h)
    rw [laws_szTerrainS_l0, dlt, d0, decide_eq_true h, toNatC, getD_lt h, wsucc (by omega), szTerrain_eq _ _ hl this.1 this.2]
    rfl
  · intro m left
    show laws_szTerrainS_l0 k _ _ (m + 1) a left (a.length : Int) = K left
    rw [laws_szTerrainS_l0, dlt, decide_eq_false (by omega)]; rfl
def szKn (t : KndT) (left : Int) : Int := szI t.1.size left
theorem szKindS_eq {k : Nat} (hk : 1048576 < k) (a : List KndT) (left : Int) (hl : inL left) (ha : a.length ≤ 9223372036854775807) (hb : ∀ t ∈ a, t.1.size ≤ 9223372036854775807) (K : Int → Option R) : laws_szKindS k a left K = K (szS szKn a left) := by
  refine szS_eq hk szKn a ha (fun K => laws_szKindS k a left K) (fun m a left i => laws_szKindS_l0 k (fun x => K x) (fun x => K x) m a left i) K left hl rfl ?_ ?_ (fun y _ left hl => szI_b _ _ hl)
  · intro m i left h hs hl
    show laws_szKindS_l0 k _ _ (m + 1) a left (i : Int) = bif decide (szKn a[i] left < 0) then K (-1) else laws_szKindS_l0 k _ _ m a (szKn a[i] left) ((i + 1 : Nat) : Int)
    have := hb _ (List.getElem_mem h)
    have h0 := hl.1
    have h1 := hl.2
    rw [laws_szKindS_l0, dlt, d0, decide_eq_true h, toNatC, getD_lt h, wsucc (by omega)]
    unfold laws_szKind szKn szI
    rw [w64 (by omega)]
    by_cases hz : (a[i].1.size : Int) ≤ left
    · rw [decide_eq_false (by omega), if_pos hz]; rfl
    · rw [decide_eq_true (by omega), if_neg hz]; rfl
  · intro m left
    show laws_szKindS_l0 k _ _ (m + 1) a left (a.length : Int) = K left
    rw [laws_szKindS_l0, dlt, decide_eq_false (by omega)]; rfl
def szR (r : RulT) (left : Int) : Int := if szS szTe r.1 left < 0 then -1 else szS szKn r.2.1 (szS szTe r.1 left)
theorem szR_eq {k : Nat} (hk : 1048576 < k) {r : RulT} (w : wideR r) (left : Int) (hl : inL left) (K : Int → Option R) : laws_szRules k r left K = K (szR r left) := by
  obtain ⟨w1, w2, w3, w4⟩ := w
  unfold laws_szRules szR
  rw [szTerrainS_eq hk _ _ hl w1 w3]
  have h0 := hl.2
  have hb1 := szS_b szTe r.1 (fun y _ left hl => szTe_b _ _ hl) left hl
  by_cases h : szS szTe r.1 left < 0
  · rw [decide_eq_true h, if_pos h]; rfl
  · have hl2 : inL (szS szTe r.1 left) := ⟨by omega, by omega⟩
    have hb2 := szS_b szKn r.2.1 (fun y _ left hl => szI_b _ _ hl) _ hl2
    rw [decide_eq_false h, if_neg h, cond_false, szKindS_eq hk _ _ hl2 w2 w4]
    by_cases hn : szS szKn r.2.1 (szS szTe r.1 left) < 0
    · rw [decide_eq_true hn, show szS szKn r.2.1 (szS szTe r.1 left) = -1 by omega]; rfl
    · rw [decide_eq_false hn]; rfl
theorem szR_ok (r : RulT) (left : Int) (hl : inL left) : szR r left = -1 ∨ (0 ≤ szR r left ∧ szR r left ≤ left ∧ smallR r) := by
  unfold szR
  have h0 := hl.2
  rcases szS_ok szTe _ r.1 (fun y _ left hl => szTe_ok y left hl) left hl with h1 | ⟨h1, h2, h3, h4⟩
  · left; rw [if_pos (by omega)]
  · rw [if_neg (by omega)]
    rcases szS_ok szKn (fun t => t.1.size ≤ 1048576) r.2.1 (fun y _ left hl => by
      rcases szI_cases y.1.size left hl.1 with g | ⟨g1, g2, g3⟩
      · exact .inl g
      · exact .inr ⟨g1, g2, by have := hl.2; omega⟩) (szS szTe r.1 left) ⟨h1, by omega⟩ with g1 | ⟨g1, g2, g3, g4⟩
    · exact .inl g1
    · exact .inr ⟨g1, by omega, h3, g3, h4, g4⟩
/-! ### copies, equality -/
theorem toTerrainS_eq {k : Nat} (a : List TerT) (h : a.length < k) (hb : a.length ≤ 137438953472) (hr : ∀ t ∈ a, t.2.1.length < k ∧ t.2.1.length ≤ 137438953472) (K : List TerT → Option R) : laws_toTerrainS k a K = K a := by
  refine toS_eq a ((⟨#[]⟩ : ByteArray), ([], ((0 : Int), ((0 : Int), false)))) h hb (fun K => laws_toTerrainS k a K) (fun m a i out => laws_toTerrainS_l0 k (fun x => K x) m a i out) K rfl ?_ ?_
  · intro m i out hi ho
    show laws_toTerrainS_l0 k _ (m + 1) a (i : Int) out = laws_toTerrainS_l0 k _ m a ((i + 1 : Nat) : Int) _
    have := hr _ (List.getElem_mem hi)
    rw [laws_toTerrainS_l0, dlt, d0, dlt, decide_eq_true hi, decide_eq_true (by omega : i < out.length), toNatC, getD_lt hi, wsucc (by omega)]
    unfold laws_toTerrain
    rw [toIntS_eq _ this.1 this.2]
    rfl
  · intro m out
    show laws_toTerrainS_l0 k _ (m + 1) a (a.length : Int) out = K out
    rw [laws_toTerrainS_l0, dlt, decide_eq_false (by omega)]; rfl
theorem toKindS_eq {k : Nat} (a : List KndT) (h : a.length < k) (hb : a.length ≤ 137438953472) (K : List KndT → Option R) : laws_toKindS k a K = K a := by
  refine toS_eq a ((⟨#[]⟩ : ByteArray), ((0 : Int), ((0 : Int), ((0 : Int), (false, (0 : Int)))))) h hb (fun K => laws_toKindS k a K) (fun m a i out => laws_toKindS_l0 k (fun x => K x) m a i out) K rfl ?_ ?_
  · intro m i out hi ho
    show laws_toKindS_l0 k _ (m + 1) a (i : Int) out = laws_toKindS_l0 k _ m a ((i + 1 : Nat) : Int) _
    rw [laws_toKindS_l0, dlt, d0, dlt, decide_eq_true hi, decide_eq_true (by omega : i < out.length), toNatC, getD_lt hi, wsucc (by omega)]
    rfl
  · intro m out
    show laws_toKindS_l0 k _ (m + 1) a (a.length : Int) out = K out
    rw [laws_toKindS_l0, dlt, decide_eq_false (by omega)]; rfl
theorem toRul_eq {r : RulT} (hs : smallR r) (K : RulT → Option R) : laws_toRules 4194304 r K = K r := by
  obtain ⟨s1, s2, s3, s4⟩ := hs
  unfold laws_toRules
  rw [toTerrainS_eq _ (by omega) (by omega) (fun t ht => by have := s3 t ht; omega), toKindS_eq _ (by omega) (by omega)]
theorem eqTerrain_self {k : Nat} (t : TerT) (h : t.2.1.length < k) (hb : t.2.1.length ≤ 137438953472) (K : Bool → Option R) : laws_eqTerrain k t t K = K true := by
  unfold laws_eqTerrain
  rw [beq_self_eq_true, eqIntS_self _ h hb, decide_eq_true rfl, decide_eq_true rfl, beq_self_eq_true]; rfl
theorem eqTerrainS_self {k : Nat} (a : List TerT) (h : a.length < k) (hb : a.length ≤ 137438953472) (hr : ∀ t ∈ a, t.2.1.length < k ∧ t.2.1.length ≤ 137438953472) (K : Bool → Option R) : laws_eqTerrainS k a a K = K true := by
  refine eqS_self a h (fun K => laws_eqTerrainS k a a K) (fun m a b i => laws_eqTerrainS_l0 k (K true) (fun x => K x) m a b i) K rfl ?_ ?_
  · intro m i hi
    show laws_eqTerrainS_l0 k _ _ (m + 1) a a (i : Int) = laws_eqTerrainS_l0 k _ _ m a a ((i + 1 : Nat) : Int)
    have := hr _ (List.getElem_mem hi)
    rw [laws_eqTerrainS_l0, dlt, d0, decide_eq_true hi, wsucc (by omega), toNatC, getD_lt hi, eqTerrain_self _ this.1 this.2]
    rfl
  · intro m
    show laws_eqTerrainS_l0 k _ _ (m + 1) a a (a.length : Int) = K true
    rw [laws_eqTerrainS_l0, dlt, decide_eq_false (by omega)]; rfl
theorem eqKind_self (t : KndT) (K : Bool → Option R) : laws_eqKind t t K = K true := by
  unfold laws_eqKind
  rw [beq_self_eq_true, decide_eq_true rfl, decide_eq_true rfl, decide_eq_true rfl, beq_self_eq_true, decide_eq_true rfl]; rfl
theorem eqKindS_self {k : Nat} (a : List KndT) (h : a.length < k) (hb : a.length ≤ 137438953472) (K : Bool → Option R) : laws_eqKindS k a a K = K true := by
  refine eqS_self a h (fun K => laws_eqKindS k a a K) (fun m a b i => laws_eqKindS_l0 k (K true) (fun x => K x) m a b i) K rfl ?_ ?_
  · intro m i hi
    show laws_eqKindS_l0 k _ _ (m + 1) a a (i : Int) = laws_eqKindS_l0 k _ _ m a a ((i + 1 : Nat) : Int)
    rw [laws_eqKindS_l0, dlt, d0, decide_eq_true hi, wsucc (by omega), toNatC, getD_lt hi, eqKind_self]
    rfl
  · intro m
    show laws_eqKindS_l0 k _ _ (m + 1) a a (a.length : Int) = K true
    rw [laws_eqKindS_l0, dlt, decide_eq_false (by omega)]; rfl
theorem eqRul_self {r : RulT} (hs : smallR r) (K : Bool → Option R) : laws_eqRules 4194304 r r K = K true := by
  obtain ⟨s1, s2, s3, s4⟩ := hs
  unfold laws_eqRules
  rw [eqTerrainS_self _ (by omega) (by omega) (fun t ht => by have := s3 t ht; omega), eqKindS_self _ (by omega) (by omega), decide_eq_true rfl, decide_eq_true rfl, decide_eq_true rfl, decide_eq_true rfl, decide_eq_true rfl]
  rfl
/-! ### names -/
def letB (s : ByteArray) (i : Nat) : Bool := !decide (byteAt s (i : Int) < 97) && !decide (122 < byteAt s (i : Int))
def nameB (s : ByteArray) : Bool := (List.range s.size).all (letB s) && inB (s.size : Int) 1 8
theorem rName_eq {k : Nat} (s : ByteArray) (h : s.size < k) (hb : s.size ≤ 137438953472) (K : Bool → Option R) : spec_rName k s K = K (nameB s) := by
  unfold spec_rName nameB
  have := loop_allN (fun m i => spec_rName_l0 k (fun s1 => spec_l1In ((s1.size : Nat) : Int) 1 8 fun r => K r) (fun x => K x) m s (i : Int)) s.size (letB s) (spec_l1In ((s.size : Nat) : Int) 1 8 fun r => K r) (K false) ?_ ?_ h
  · refine this.trans ?_
    rw [l1In_eq]
    cases (List.range s.size).all (letB s) <;> rfl
  · intro m i hi
    show spec_rName_l0 k _ _ (m + 1) s (i : Int) = bif _ then spec_rName_l0 k _ _ m s ((i + 1 : Nat) : Int) else _
    rw [spec_rName_l0, dlt, d0, decide_eq_true hi, wsucc (by omega)]
    unfold letB
    cases decide (byteAt s (i : Int) < 97)
    · cases decide (122 < byteAt s (i : Int)) <;> rfl
    · rfl
  · intro m
    show spec_rName_l0 k _ _ (m + 1) s (s.size : Int) = _
    rw [spec_rName_l0, dlt, decide_eq_false (by omega)]; rfl
theorem isName_eq {k : Nat} (s : ByteArray) (h : s.size < k) (hb : s.size ≤ 137438953472) (K : Bool → Option R) : impl_isName k s K = K (nameB s) := by
  unfold impl_isName nameB
  have := loop_allN (fun m i => impl_isName_l0 k (fun s1 => impl_inRange ((s1.size : Nat) : Int) 1 8 fun r => K r) (fun x => K x) m s (i : Int)) s.size (letB s) (impl_inRange ((s.size : Nat) : Int) 1 8 fun r => K r) (K false) ?_ ?_ h
  · refine this.trans ?_
    rw [inRange_eq]
    cases (List.range s.size).all (letB s) <;> rfl
  · intro m i hi
    show impl_isName_l0 k _ _ (m + 1) s (i : Int) = bif _ then impl_isName_l0 k _ _ m s ((i + 1 : Nat) : Int) else _
    rw [impl_isName_l0, dlt, d0, decide_eq_true hi, wsucc (by omega)]
    unfold letB
    cases decide (byteAt s (i : Int) < 97)
    · cases decide (122 < byteAt s (i : Int)) <;> rfl
    · rfl
  · intro m
    show impl_isName_l0 k _ _ (m + 1) s (s.size : Int) = _
    rw [impl_isName_l0, dlt, decide_eq_false (by omega)]; rfl
def isT (name : ByteArray) (t : TerT) : Bool := t.1.toList == name.toList
def isK (name : ByteArray) (t : KndT) : Bool := t.1.toList == name.toList
theorem rTerrain_eq {k : Nat} (l : List TerT) (name : ByteArray) (h : l.length < k) (hb : l.length ≤ 137438953472) (K : Int → Option R) : spec_rTerrain k l name K = K (findI (isT name) l) := by
  unfold spec_rTerrain
  refine loop_find (fun m i => spec_rTerrain_l0 k (K (-1)) (fun x => K x) m name l (l.length : Int) (i : Int)) l (isT name) K ?_ ?_ h
  · intro m i hi
    show spec_rTerrain_l0 k _ _ (m + 1) name l (l.length : Int) (i : Int) = bif _ then _ else spec_rTerrain_l0 k _ _ m name l (l.length : Int) ((i + 1 : Nat) : Int)
    rw [spec_rTerrain_l0, dlt, d0, decide_eq_true hi, wsucc (by omega), toNatC, getD_lt hi]
    rfl
  · intro m
    show spec_rTerrain_l0 k _ _ (m + 1) name l (l.length : Int) (l.length : Int) = _
    rw [spec_rTerrain_l0, dlt, decide_eq_false (by omega)]; rfl
theorem rKind_eq {k : Nat} (l : List KndT) (name : ByteArray) (h : l.length < k) (hb : l.length ≤ 137438953472) (K : Int → Option R) : spec_rKind k l name K = K (findI (isK name) l) := by
  unfold spec_rKind
  refine loop_find (fun m i => spec_rKind_l0 k (K (-1)) (fun x => K x) m name l (l.length : Int) (i : Int)) l (isK name) K ?_ ?_ h
  · intro m i hi
    show spec_rKind_l0 k _ _ (m + 1) name l (l.length : Int) (i : Int) = bif _ then _ else spec_rKind_l0 k _ _ m name l (l.length : Int) ((i + 1 : Nat) : Int)
    rw [spec_rKind_l0, dlt, d0, decide_eq_true hi, wsucc (by omega), toNatC, getD_lt hi]
    rfl
  · intro m
    show spec_rKind_l0 k _ _ (m + 1) name l (l.length : Int) (l.length : Int) = _
    rw [spec_rKind_l0, dlt, decide_eq_false (by omega)]; rfl
theorem terrainIndex_eq {k : Nat} (l : List TerT) (name : ByteArray) (h : l.length < k) (hb : l.length ≤ 137438953472) (K : Int → Option R) : impl_terrainIndex k l name K = K (findI (isT name) l) := by
  unfold impl_terrainIndex slices_IndexFunc_Simpl_Terrain_impl_Terrain__impl_terrainIndex_1
  refine loop_find (fun m i => slices_IndexFunc_Simpl_Terrain_impl_Terrain__impl_terrainIndex_1_l0 k (K (-1)) (fun x => K x) m l name (l.length : Int) (i : Int)) l (isT name) K ?_ ?_ h
  · intro m i hi
    show slices_IndexFunc_Simpl_Terrain_impl_Terrain__impl_terrainIndex_1_l0 k _ _ (m + 1) l name (l.length : Int) (i : Int) = bif _ then _ else slices_IndexFunc_Simpl_Terrain_impl_Terrain__impl_terrainIndex_1_l0 k _ _ m l name (l.length : Int) ((i + 1 : Nat) : Int)
    rw [slices_IndexFunc_Simpl_Terrain_impl_Terrain__impl_terrainIndex_1_l0, dlt, d0, decide_eq_true hi, wsucc (by omega), toNatC, getD_lt hi]
    rfl
  · intro m
    show slices_IndexFunc_Simpl_Terrain_impl_Terrain__impl_terrainIndex_1_l0 k _ _ (m + 1) l name (l.length : Int) (l.length : Int) = _
    rw [slices_IndexFunc_Simpl_Terrain_impl_Terrain__impl_terrainIndex_1_l0, dlt, decide_eq_false (by omega)]; rfl
theorem kindIndex_eq {k : Nat} (l : List KndT) (name : ByteArray) (h : l.length < k) (hb : l.length ≤ 137438953472) (K : Int → Option R) : impl_kindIndex k l name K = K (findI (isK name) l) := by
  unfold impl_kindIndex slices_IndexFunc_Simpl_Kind_impl_Kind__impl_kindIndex_1
  refine loop_find (fun m i => slices_IndexFunc_Simpl_Kind_impl_Kind__impl_kindIndex_1_l0 k (K (-1)) (fun x => K x) m l name (l.length : Int) (i : Int)) l (isK name) K ?_ ?_ h
  · intro m i hi
    show slices_IndexFunc_Simpl_Kind_impl_Kind__impl_kindIndex_1_l0 k _ _ (m + 1) l name (l.length : Int) (i : Int) = bif _ then _ else slices_IndexFunc_Simpl_Kind_impl_Kind__impl_kindIndex_1_l0 k _ _ m l name (l.length : Int) ((i + 1 : Nat) : Int)
    rw [slices_IndexFunc_Simpl_Kind_impl_Kind__impl_kindIndex_1_l0, dlt, d0, decide_eq_true hi, wsucc (by omega), toNatC, getD_lt hi]
    rfl
  · intro m
    show slices_IndexFunc_Simpl_Kind_impl_Kind__impl_kindIndex_1_l0 k _ _ (m + 1) l name (l.length : Int) (l.length : Int) = _
    rw [slices_IndexFunc_Simpl_Kind_impl_Kind__impl_kindIndex_1_l0, dlt, decide_eq_false (by omega)]; rfl
theorem notCost_eq {k : Nat} (l : List Int) (h : l.length < k) (hb : l.length ≤ 137438953472) (K : Bool → Option R) : slices_ContainsFunc_Sint_int__impl_goodTerrain_1 k l K = K (!l.all fun x => inB x 0 9) := by
  unfold slices_ContainsFunc_Sint_int__impl_goodTerrain_1 slices_IndexFunc_Sint_int__impl_goodTerrain_1
  have := loop_find (fun m i => slices_IndexFunc_Sint_int__impl_goodTerrain_1_l0 k (K (decide ((0 : Int) ≤ -1))) (fun x => K (decide (0 ≤ x))) m l (l.length : Int) (i : Int)) l (fun x => !inB x 0 9) (fun x => K (decide (0 ≤ x))) ?_ ?_ (m := k) h
  · refine this.trans ?_
    show K (decide (0 ≤ findI (fun x => !inB x 0 9) l)) = _
    rw [findI_ge]
    congr 1
    rw [List.all_eq_not_any_not]; simp
  · intro m i hi
    show slices_IndexFunc_Sint_int__impl_goodTerrain_1_l0 k _ _ (m + 1) l (l.length : Int) (i : Int) = bif _ then _ else slices_IndexFunc_Sint_int__impl_goodTerrain_1_l0 k _ _ m l (l.length : Int) ((i + 1 : Nat) : Int)
    rw [slices_IndexFunc_Sint_int__impl_goodTerrain_1_l0, dlt, d0, decide_eq_true hi, toNatC, wsucc (by omega), getD_lt hi]
    unfold impl_goodTerrain_1
    rw [inRange_eq]
    rfl
  · intro m
    show slices_IndexFunc_Sint_int__impl_goodTerrain_1_l0 k _ _ (m + 1) l (l.length : Int) (l.length : Int) = _
    rw [slices_IndexFunc_Sint_int__impl_goodTerrain_1_l0, dlt, decide_eq_false (by omega)]; rfl
/-! ### good rules -/
def terB (r : RulT) (i : Nat) (t : TerT) : Bool := nameB t.1 && (decide (findI (isT t.1) r.1 = (i : Int)) && (decide (t.2.1.length = r.2.1.length) && ((t.2.1.all fun x => inB x 0 9) && (inB t.2.2.1 (-3) 3 && inB t.2.2.2.1 0 3))))
def kndB (r : RulT) (i : Nat) (t : KndT) : Bool := nameB t.1 && (decide (findI (isK t.1) r.2.1 = (i : Int)) && (inB t.2.1 1 9 && (inB t.2.2.1 0 9 && (inB t.2.2.2.1 1 4 && inB t.2.2.2.2.2 0 4))))
abbrev zTer : TerT := ((⟨#[]⟩ : ByteArray), ([], ((0 : Int), ((0 : Int), false))))
abbrev zKnd : KndT := ((⟨#[]⟩ : ByteArray), ((0 : Int), ((0 : Int), ((0 : Int), (false, (0 : Int))))))
def limB (r : RulT) : Bool := inB r.2.2.1 1 4 && (inB r.2.2.2.1 0 9 && (inB r.2.2.2.2.1 1 9 && (inB r.2.2.2.2.2.1 0 20 && inB r.2.2.2.2.2.2 1 30)))
def goodR (r : RulT) : Bool := inB (r.1.length : Int) 1 6 && (inB (r.2.1.length : Int) 1 4 && ((List.range r.1.length).all (fun i => terB r i (List.getD r.1 i zTer)) && ((List.range r.2.1.length).all (fun i => kndB r i (List.getD r.2.1 i zKnd)) && limB r)))
theorem sR_l0 {k q : Nat} {r : RulT} (hs : smallR r) (hk : 1048576 < k) (hq : r.1.length < q) (K0 : RulT → Option R) (K1 : Bool → Option R) :
    spec_rGood_l0 k K0 K1 q r.1 (r.1.length : Int) 0 r = bif (List.range r.1.length).all (fun i => terB r i (List.getD r.1 i zTer)) then K0 r else K1 false := by
  obtain ⟨s1, s2, s3, s4⟩ := hs
  refine loop_allN (fun m i => spec_rGood_l0 k K0 K1 m r.1 (r.1.length : Int) (i : Int) r) r.1.length _ (K0 r) (K1 false) ?_ ?_ hq
  · intro m i hi
    show spec_rGood_l0 k K0 K1 (m + 1) r.1 (r.1.length : Int) (i : Int) r = bif terB r i (List.getD r.1 i zTer) then spec_rGood_l0 k K0 K1 m r.1 (r.1.length : Int) ((i + 1 : Nat) : Int) r else _
    have hm := s3 _ (List.getElem_mem hi)
    rw [spec_rGood_l0, dlt, d0, decide_eq_true hi, toNatC, wsucc (by omega), getD_lt hi, rName_eq _ (by omega) (by omega), rTerrain_eq _ _ (by omega) (by omega), l1All_eq _ _ _ (by omega) (by omega), l1In_eq, l1In_eq, dnat]
    unfold terB
    cases nameB r.1[i].1
    · rfl
    cases decide (findI (isT r.1[i].1) r.1 = (i : Int))
    · rfl
    cases decide (r.1[i].2.1.length = r.2.1.length)
    · rfl
    cases (r.1[i].2.1.all fun x => inB x 0 9)
    · rfl
    cases inB r.1[i].2.2.1 (-3) 3
    · rfl
    cases inB r.1[i].2.2.2.1 0 3 <;> rfl
  · intro m
    show spec_rGood_l0 k K0 K1 (m + 1) r.1 (r.1.length : Int) (r.1.length : Int) r = _
    rw [spec_rGood_l0, dlt, decide_eq_false (by omega)]; rfl
theorem sR_l1 {k q : Nat} {r : RulT} (hs : smallR r) (hk : 1048576 < k) (hq : r.2.1.length < q) (K0 : RulT → Option R) (K1 : Bool → Option R) :
    spec_rGood_l1 k K0 K1 q r.2.1 (r.2.1.length : Int) 0 r = bif (List.range r.2.1.length).all (fun i => kndB r i (List.getD r.2.1 i zKnd)) then K0 r else K1 false := by
  obtain ⟨s1, s2, s3, s4⟩ := hs
  refine loop_allN (fun m i => spec_rGood_l1 k K0 K1 m r.2.1 (r.2.1.length : Int) (i : Int) r) r.2.1.length _ (K0 r) (K1 false) ?_ ?_ hq
  · intro m i hi
    show spec_rGood_l1 k K0 K1 (m + 1) r.2.1 (r.2.1.length : Int) (i : Int) r = bif kndB r i (List.getD r.2.1 i zKnd) then spec_rGood_l1 k K0 K1 m r.2.1 (r.2.1.length : Int) ((i + 1 : Nat) : Int) r else _
    have hm := s4 _ (List.getElem_mem hi)
    rw [spec_rGood_l1, dlt, d0, decide_eq_true hi, toNatC, wsucc (by omega), getD_lt hi, rName_eq _ (by omega) (by omega), rKind_eq _ _ (by omega) (by omega), l1In_eq, l1In_eq, l1In_eq, l1In_eq]
    unfold kndB
    cases nameB r.2.1[i].1
    · rfl
    cases decide (findI (isK r.2.1[i].1) r.2.1 = (i : Int))
    · rfl
    cases inB r.2.1[i].2.1 1 9
    · rfl
    cases inB r.2.1[i].2.2.1 0 9
    · rfl
    cases inB r.2.1[i].2.2.2.1 1 4
    · rfl
    cases inB r.2.1[i].2.2.2.2.2 0 4 <;> rfl
  · intro m
    show spec_rGood_l1 k K0 K1 (m + 1) r.2.1 (r.2.1.length : Int) (r.2.1.length : Int) r = _
    rw [spec_rGood_l1, dlt, decide_eq_false (by omega)]; rfl
theorem rGood_eq {r : RulT} (hs : smallR r) (K : Bool → Option R) : spec_rGood 4194304 r K = K (goodR r) := by
  have hs' := hs
  obtain ⟨s1, s2, s3, s4⟩ := hs'
  unfold spec_rGood goodR limB
  rw [l1In_eq, l1In_eq, sR_l0 hs (by omega) (by omega), sR_l1 hs (by omega) (by omega), l1In_eq, l1In_eq, l1In_eq, l1In_eq, l1In_eq]
  cases inB (r.1.length : Int) 1 6
  · rfl
  cases inB (r.2.1.length : Int) 1 4
  · rfl
  cases (List.range r.1.length).all (fun i => terB r i (List.getD r.1 i zTer))
  · rfl
  cases (List.range r.2.1.length).all (fun i => kndB r i (List.getD r.2.1 i zKnd))
  · rfl
  cases inB r.2.2.1 1 4
  · rfl
  cases inB r.2.2.2.1 0 9
  · rfl
  cases inB r.2.2.2.2.1 1 9
  · rfl
  cases inB r.2.2.2.2.2.1 0 20 <;> rfl
theorem goodTerrain_eq {k : Nat} (t : TerT) (n : Nat) (h1 : t.1.size < k) (h2 : t.1.size ≤ 137438953472) (h3 : t.2.1.length < k) (h4 : t.2.1.length ≤ 137438953472) (K : Bool → Option R) :
    impl_goodTerrain k t (n : Int) K = K (nameB t.1 && (decide (t.2.1.length = n) && (inB t.2.2.1 (-3) 3 && (inB t.2.2.2.1 0 3 && t.2.1.all fun x => inB x 0 9)))) := by
  unfold impl_goodTerrain
  rw [isName_eq _ h1 h2, dnat, inRange_eq, inRange_eq, notCost_eq _ h3 h4]
  cases nameB t.1
  · rfl
  cases decide (t.2.1.length = n)
  · rfl
  cases inB t.2.2.1 (-3) 3
  · rfl
  cases inB t.2.2.2.1 0 3
  · rfl
  cases (t.2.1.all fun x => inB x 0 9) <;> rfl
theorem goodKind_eq {k : Nat} (t : KndT) (h1 : t.1.size < k) (h2 : t.1.size ≤ 137438953472) (K : Bool → Option R) :
    impl_goodKind k t K = K (nameB t.1 && (inB t.2.1 1 9 && (inB t.2.2.1 0 9 && (inB t.2.2.2.1 1 4 && inB t.2.2.2.2.2 0 4)))) := by
  unfold impl_goodKind
  rw [isName_eq _ h1 h2, inRange_eq, inRange_eq, inRange_eq, inRange_eq]
  cases nameB t.1
  · rfl
  cases inB t.2.1 1 9
  · rfl
  cases inB t.2.2.1 0 9
  · rfl
  cases inB t.2.2.2.1 1 4 <;> rfl
theorem iR_l0 {k q : Nat} {r : RulT} (hs : smallR r) (hk : 1048576 < k) (hq : r.1.length < q) (K0 : RulT → Option R) (K1 : Bool → Option R) :
    impl_IsRules_l0 k K0 K1 q r.1 (r.1.length : Int) 0 r = bif (List.range r.1.length).all (fun i => terB r i (List.getD r.1 i zTer)) then K0 r else K1 false := by
  obtain ⟨s1, s2, s3, s4⟩ := hs
  refine loop_allN (fun m i => impl_IsRules_l0 k K0 K1 m r.1 (r.1.length : Int) (i : Int) r) r.1.length _ (K0 r) (K1 false) ?_ ?_ hq
  · intro m i hi
    show impl_IsRules_l0 k K0 K1 (m + 1) r.1 (r.1.length : Int) (i : Int) r = bif terB r i (List.getD r.1 i zTer) then impl_IsRules_l0 k K0 K1 m r.1 (r.1.length : Int) ((i + 1 : Nat) : Int) r else _
    have hm := s3 _ (List.getElem_mem hi)
    rw [impl_IsRules_l0, dlt, d0, decide_eq_true hi, toNatC, wsucc (by omega), getD_lt hi, goodTerrain_eq _ _ (by omega) (by omega) (by omega) (by omega), terrainIndex_eq _ _ (by omega) (by omega)]
    unfold terB
    cases nameB r.1[i].1
    · rfl
    cases decide (findI (isT r.1[i].1) r.1 = (i : Int)) <;> cases decide (r.1[i].2.1.length = r.2.1.length) <;> cases (r.1[i].2.1.all fun x => inB x 0 9) <;> cases inB r.1[i].2.2.1 (-3) 3 <;> cases inB r.1[i].2.2.2.1 0 3 <;> rfl
  · intro m
    show impl_IsRules_l0 k K0 K1 (m + 1) r.1 (r.1.length : Int) (r.1.length : Int) r = _
    rw [impl_IsRules_l0, dlt, decide_eq_false (by omega)]; rfl
theorem iR_l1 {k q : Nat} {r : RulT} (hs : smallR r) (hk : 1048576 < k) (hq : r.2.1.length < q) (K0 : RulT → Option R) (K1 : Bool → Option R) :
    impl_IsRules_l1 k K0 K1 q r.2.1 (r.2.1.length : Int) 0 r = bif (List.range r.2.1.length).all (fun i => kndB r i (List.getD r.2.1 i zKnd)) then K0 r else K1 false := by
  obtain ⟨s1, s2, s3, s4⟩ := hs
  refine loop_allN (fun m i => impl_IsRules_l1 k K0 K1 m r.2.1 (r.2.1.length : Int) (i : Int) r) r.2.1.length _ (K0 r) (K1 false) ?_ ?_ hq
  · intro m i hi
    show impl_IsRules_l1 k K0 K1 (m + 1) r.2.1 (r.2.1.length : Int) (i : Int) r = bif kndB r i (List.getD r.2.1 i zKnd) then impl_IsRules_l1 k K0 K1 m r.2.1 (r.2.1.length : Int) ((i + 1 : Nat) : Int) r else _
    have hm := s4 _ (List.getElem_mem hi)
    rw [impl_IsRules_l1, dlt, d0, decide_eq_true hi, toNatC, wsucc (by omega), getD_lt hi, goodKind_eq _ (by omega) (by omega), kindIndex_eq _ _ (by omega) (by omega)]
    unfold kndB
    cases nameB r.2.1[i].1
    · rfl
    cases decide (findI (isK r.2.1[i].1) r.2.1 = (i : Int)) <;> cases inB r.2.1[i].2.1 1 9 <;> cases inB r.2.1[i].2.2.1 0 9 <;> cases inB r.2.1[i].2.2.2.1 1 4 <;> cases inB r.2.1[i].2.2.2.2.2 0 4 <;> rfl
  · intro m
    show impl_IsRules_l1 k K0 K1 (m + 1) r.2.1 (r.2.1.length : Int) (r.2.1.length : Int) r = _
    rw [impl_IsRules_l1, dlt, decide_eq_false (by omega)]; rfl
theorem IsRules_eq {r : RulT} (hs : smallR r) (K : Bool → Option R) : impl_IsRules 4194304 r K = K (goodR r) := by
  have hs' := hs
  obtain ⟨s1, s2, s3, s4⟩ := hs'
  unfold impl_IsRules goodR limB
  rw [inRange_eq, inRange_eq, iR_l0 hs (by omega) (by omega), iR_l1 hs (by omega) (by omega), inRange_eq, inRange_eq, inRange_eq, inRange_eq, inRange_eq]
  cases inB (r.1.length : Int) 1 6
  · rfl
  cases inB (r.2.1.length : Int) 1 4
  · rfl
  cases (List.range r.1.length).all (fun i => terB r i (List.getD r.1 i zTer))
  · rfl
  cases (List.range r.2.1.length).all (fun i => kndB r i (List.getD r.2.1 i zKnd))
  · rfl
  cases inB r.2.2.1 1 4
  · rfl
  cases inB r.2.2.2.1 0 9
  · rfl
  cases inB r.2.2.2.2.1 1 9
  · rfl
  cases inB r.2.2.2.2.2.1 0 20 <;> rfl
/-! ### the laws -/
end
end Go.Lg
/- Boards: what the functions answer; their laws. -/
set_option linter.unusedSimpArgs false
set_option linter.unusedVariables false
namespace Go.Lg
open Go Go.Ev
section
variable {R α : Type}
abbrev BrdT := RulT × MapT
abbrev BrdTy : Ty := .st (.pair RulTy MapTy)
def smallB (b : BrdT) : Prop := smallR b.1 ∧ small b.2
theorem szBoard_ret {b : BrdT} (w : Wf BrdTy b) : ∃ r : Int, (∀ {R : Type} (K : Int → Option R), laws_szBoard 4194304 b 1048576 K = K r) ∧ (r = -1 ∨ (inL r ∧ smallB b)) := by
  obtain ⟨w1, w2⟩ := w
  rcases szR_ok b.1 1048576 inL0 with h | ⟨g1, g2, hs⟩
  · exact ⟨-1, fun K => by unfold laws_szBoard; rw [szR_eq (by omega) (wfRul w1) _ inL0, h]; rfl, .inl rfl⟩
  · obtain ⟨r, h1, h2⟩ := szMap_ret w2 (szR b.1 1048576) ⟨g1, g2⟩
    refine ⟨r, fun K => ?_, ?_⟩
    · unfold laws_szBoard
      rw [szR_eq (by omega) (wfRul w1) _ inL0, decide_eq_false (by omega), cond_false, h1]
      rcases h2 with h2 | ⟨h2, _⟩
      · rw [h2]; rfl
      · rw [decide_eq_false (by omega)]; rfl
    · rcases h2 with h2 | ⟨h2, h3, h4⟩
      · exact .inl h2
      · exact .inr ⟨⟨h2, by omega⟩, hs, h4⟩
theorem toBrd_eq {b : BrdT} (hs : smallB b) (K : BrdT → Option R) : laws_toBoard 4194304 b K = K b := by
  unfold laws_toBoard
  rw [toRul_eq hs.1, toMap_eq hs.2]
theorem eqBrd_self {b : BrdT} (hs : smallB b) (K : Bool → Option R) : laws_eqBoard 4194304 b b K = K true := by
  unfold laws_eqBoard
  rw [eqRul_self hs.1, Bool.not_true, cond_false, eqMap_self hs.2]; rfl
def goodB (b : BrdT) : Bool := goodR b.1 && (good b.2 && b.2.2.2.1.all fun x => inB x 0 ((b.1.1.length : Int) - 1))
theorem good_rul {r : RulT} (h : goodR r = true) : (1 ≤ r.1.length ∧ r.1.length ≤ 6) ∧ (1 ≤ r.2.1.length ∧ r.2.1.length ≤ 4) ∧ (∀ i < r.1.length, terB r i (List.getD r.1 i zTer) = true) ∧ (∀ i < r.2.1.length, kndB r i (List.getD r.2.1 i zKnd) = true) ∧ limB r = true := by
  unfold goodR at h
  simp only [Bool.and_eq_true, inB_iff, List.all_eq_true, List.mem_range] at h
  obtain ⟨h1, h2, h3, h4, h5⟩ := h
  exact ⟨by omega, by omega, h3, h4, h5⟩
theorem bGood_eq {b : BrdT} (hs : smallB b) (K : Bool → Option R) : spec_bGood 4194304 b K = K (goodB b) := by
  obtain ⟨s1, s2⟩ := hs
  have s2' := s2
  obtain ⟨q1, q2, q3⟩ := s2'
  unfold spec_bGood goodB
  rw [rGood_eq s1, mGood_eq s2]
  cases hg : goodR b.1
  · rfl
  obtain ⟨h1, _⟩ := good_rul hg
  rw [w64 (by omega), l1All_eq _ _ _ (by omega) (by omega)]
  cases good b.2
  · rfl
  cases (b.2.2.2.1.all fun x => inB x 0 ((b.1.1.length : Int) - 1)) <;> rfl
theorem ter_ge {m : MapT} (h : good m = true) : ∀ x ∈ m.2.2.1, 0 ≤ x ∧ x ≤ 5 := by
  unfold good at h
  simp only [Bool.and_eq_true, inB_iff, List.all_eq_true] at h
  exact h.2.2.2.1
theorem notTer_eq {k : Nat} (l : List Int) (b : BrdT) (h : l.length < k) (hb : l.length ≤ 137438953472) (K : Bool → Option R) : slices_ContainsFunc_Sint_int__impl_IsBoard_1 k l b K = K (l.any fun x => decide ((b.1.1.length : Int) ≤ x)) := by
  unfold slices_ContainsFunc_Sint_int__impl_IsBoard_1 slices_IndexFunc_Sint_int__impl_IsBoard_1
  have := loop_find (fun m i => slices_IndexFunc_Sint_int__impl_IsBoard_1_l0 k (K (decide ((0 : Int) ≤ -1))) (fun x => K (decide (0 ≤ x))) m l b (l.length : Int) (i : Int)) l (fun x => decide ((b.1.1.length : Int) ≤ x)) (fun x => K (decide (0 ≤ x))) ?_ ?_ (m := k) h
  · refine this.trans ?_
    show K (decide (0 ≤ findI (fun x => decide ((b.1.1.length : Int) ≤ x)) l)) = _
    rw [findI_ge]
  · intro m i hi
    show slices_IndexFunc_Sint_int__impl_IsBoard_1_l0 k _ _ (m + 1) l b (l.length : Int) (i : Int) = bif _ then _ else slices_IndexFunc_Sint_int__impl_IsBoard_1_l0 k _ _ m l b (l.length : Int) ((i + 1 : Nat) : Int)
    rw [slices_IndexFunc_Sint_int__impl_IsBoard_1_l0, dlt, d0, decide_eq_true hi, toNatC, wsucc (by omega), getD_lt hi]
    rfl
  · intro m
    show slices_IndexFunc_Sint_int__impl_IsBoard_1_l0 k _ _ (m + 1) l b (l.length : Int) (l.length : Int) = _
    rw [slices_IndexFunc_Sint_int__impl_IsBoard_1_l0, dlt, decide_eq_false (by omega)]; rfl
theorem IsBoard_eq {b : BrdT} (hs : smallB b) (K : Bool → Option R) : impl_IsBoard 4194304 b K = K (goodB b) := by
  obtain ⟨s1, s2⟩ := hs
  have s2' := s2
  obtain ⟨q1, q2, q3⟩ := s2'
  unfold impl_IsBoard goodB
  rw [IsRules_eq s1, IsMap_eq s2, notTer_eq _ _ (by omega) (by omega)]
  cases hg : goodR b.1
  · rfl
  cases hm : good b.2
  · rfl
  show K (!(b.2.2.2.1.any fun x => decide ((b.1.1.length : Int) ≤ x))) = K (b.2.2.2.1.all fun x => inB x 0 ((b.1.1.length : Int) - 1))
  congr 1
  have h0 := ter_ge hm
  rw [Bool.eq_iff_iff]
  simp only [Bool.not_eq_true', List.any_eq_false, List.all_eq_true, decide_eq_true_eq, inB_iff]
  constructor
  · intro h x hx
    have := h x hx
    have := h0 x hx
    omega
  · intro h x hx
    have := h x hx
    omega
/-! ### costs -/
theorem good_brd {b : BrdT} (h : goodB b = true) : goodR b.1 = true ∧ good b.2 = true ∧ ∀ x ∈ b.2.2.2.1, 0 ≤ x ∧ x ≤ (b.1.1.length : Int) - 1 := by
  unfold goodB at h
  simp only [Bool.and_eq_true, inB_iff, List.all_eq_true] at h
  exact h
end
end Go.Lg
/- Marks of tables, rules, boards. -/
set_option linter.unusedSimpArgs false
set_option linter.unusedVariables false
namespace Go.Lg
open Go Go.Ev
section
variable {R α σ ι : Type}
theorem set_at' {l r : List α} {x y : α} : (l ++ x :: r).set l.length y = l ++ y :: r := set_at rfl
theorem getD_at' {l r : List α} {x d : α} : (l ++ x :: r).getD l.length d = x := getD_at rfl
theorem len_at {l r : List α} {x : α} : (l ++ x :: r).length = l.length + (r.length + 1) := by simp
theorem lt_at {a b : Nat} : decide ((a : Int) < ((a + (b + 1) : Nat) : Int)) = true := decide_eq_true (by omega)
/-! ### rows of numbers -/
theorem markIntS_k {k : Nat} (a : List Int) (k0 : Int) (hk : 0 ≤ k0 ∧ k0 + a.length ≤ 4000000000000000) (h : a.length < k) (hb : a.length ≤ 137438953472) (K : List Int → Int → Option R) : laws_markIntS_in k a k0 K = K (mI k0 a.length) (k0 + (a.length : Int)) := by
  unfold laws_markIntS_in
  have h0 : a = mI k0 0 ++ a.drop 0 := by simp [mI]
  conv => lhs; rw [h0]
  have e0 : k0 = k0 + ((0 : Nat) : Int) := by omega
  conv => lhs; arg 4; rw [e0]
  refine loop_det (fun m i s => laws_markIntS_in_l0 k (fun x y => K y x) m (k0 + (i : Int)) (i : Int) s) a.length (fun i => mI k0 i ++ a.drop i) _ ?_ ?_ k 0 (Nat.zero_le _) (by omega)
  · intro m i hi
    show laws_markIntS_in_l0 k _ (m + 1) (k0 + (i : Int)) (i : Int) (mI k0 i ++ a.drop i) = laws_markIntS_in_l0 k _ m (k0 + ((i + 1 : Nat) : Int)) ((i + 1 : Nat) : Int) (mI k0 (i + 1) ++ a.drop (i + 1))
    have hl : (mI k0 i ++ a.drop i).length = a.length := by rw [List.length_append, mI_len, List.length_drop]; omega
    rw [laws_markIntS_in_l0, hl, dlt, d0, decide_eq_true hi, toNatC, wsucc (by omega), List.drop_eq_getElem_cons hi, set_at (mI_len k0 i), w64 (by omega), mI_succ, List.append_assoc, show k0 + (i : Int) + 1 = k0 + ((i + 1 : Nat) : Int) by omega]
    rfl
  · intro m
    have hl : (mI k0 a.length ++ a.drop a.length) = mI k0 a.length := by rw [List.drop_length, List.append_nil]
    show laws_markIntS_in_l0 k _ (m + 1) (k0 + (a.length : Int)) (a.length : Int) (mI k0 a.length ++ a.drop a.length) = _
    rw [hl, laws_markIntS_in_l0, mI_len, dlt, decide_eq_false (by omega)]; rfl
theorem heldIntS_k {k : Nat} (k0 : Int) (n : Nat) (hk : 0 ≤ k0 ∧ k0 + n ≤ 4000000000000000) (h : n < k) (hb : n ≤ 137438953472) (K : Int → Option R) : laws_heldIntS k (mI k0 n) k0 K = K (k0 + (n : Int)) := by
  unfold laws_heldIntS
  have e0 : k0 = k0 + ((0 : Nat) : Int) := by omega
  conv => lhs; arg 6; rw [e0]
  refine loop_det (fun m i s => laws_heldIntS_l0 k (fun x => K x) (fun x => K x) m (mI k0 n) s (i : Int)) n (fun i => k0 + (i : Int)) _ ?_ ?_ k 0 (Nat.zero_le _) (by omega)
  · intro m i hi
    show laws_heldIntS_l0 k _ _ (m + 1) (mI k0 n) (k0 + (i : Int)) (i : Int) = laws_heldIntS_l0 k _ _ m (mI k0 n) (k0 + ((i + 1 : Nat) : Int)) ((i + 1 : Nat) : Int)
    have e : (mI k0 n).getD i 0 = k0 + (i : Int) := by
      rw [getD_lt (by rw [mI_len]; exact hi)]; simp [mI]
    rw [laws_heldIntS_l0, mI_len, dlt, d0, decide_eq_true hi, toNatC, wsucc (by omega), e, decide_eq_true rfl, w64 (by omega), show k0 + (i : Int) + 1 = k0 + ((i + 1 : Nat) : Int) by omega]
    rfl
  · intro m
    show laws_heldIntS_l0 k _ _ (m + 1) (mI k0 n) (k0 + (n : Int)) (n : Int) = _
    rw [laws_heldIntS_l0, mI_len, dlt, decide_eq_false (by omega)]; rfl
/-! ### odds -/
theorem cS_bound (c : α → Nat) (B : Nat) : ∀ (l : List α), (∀ x ∈ l, c x ≤ B) → cS c l ≤ B * l.length
  | [], _ => by simp [cS]
  | x :: l, h => by
    have h1 := h x (by simp)
    have h2 := cS_bound c B l (fun y hy => h y (by simp [hy]))
    simp only [cS, List.length_cons, Nat.mul_succ]
    omega
theorem cS_small (c : α → Nat) (l : List α) (hl : l.length ≤ 1048576) (h : ∀ x ∈ l, c x ≤ 1048580) : cS c l ≤ 1099515822080 := by
  have h1 := cS_bound c 1048580 l h
  have h2 : 1048580 * l.length ≤ 1048580 * 1048576 := Nat.mul_le_mul_left _ hl
  omega
/-! ### texts -/
def txtGo : Nat → Int → ByteArray → ByteArray
  | 0, _, o => o
  | f + 1, k, o => if 0 < k then txtGo f (Int.tdiv k 10) (bytesOfInts [IntKind.wrap .u8 (48 + Int.tmod k 10)] ++ o) else o
def txtM (k : Int) : ByteArray := if k ≤ 0 then (⟨#[109, 48]⟩ : ByteArray) else (⟨#[109]⟩ : ByteArray) ++ txtGo 20 k (⟨#[]⟩ : ByteArray)
theorem bytes1 (x : Int) : (bytesOfInts [x]).size = 1 := rfl
theorem txtGo_size : ∀ (f : Nat) (k : Int) (o : ByteArray), (txtGo f k o).size ≤ o.size + f
  | 0, _, o => by simp [txtGo]
  | f + 1, k, o => by
    unfold txtGo
    split
    · have := txtGo_size f (Int.tdiv k 10) (bytesOfInts [IntKind.wrap .u8 (48 + Int.tmod k 10)] ++ o)
      rw [ByteArray.size_append, bytes1] at this
      omega
    · omega
theorem markText_l0_eq {k : Nat} (K0 : ByteArray → Option R) : ∀ (f m : Nat) (n : Int) (o : ByteArray), 0 ≤ n → n < 10 ^ f → n ≤ 4000000000000000 → f < m → o.size + f ≤ 100 → laws_markText_l0 k K0 m n o = K0 (txtGo f n o)
  | 0, m + 1, n, o, h0, h1, hB, hm, ho => by
    have : n = 0 := by
      have : (10 : Int) ^ 0 = 1 := rfl
      omega
    subst this
    rw [laws_markText_l0]; rfl
  | f + 1, m + 1, n, o, h0, h1, hB, hm, ho => by
    rw [laws_markText_l0]
    unfold txtGo
    by_cases h : 0 < n
    · have ht : Int.tmod n 10 = n % 10 := Int.tmod_eq_emod_of_nonneg h0
      have hd : Int.tdiv n 10 = n / 10 := Int.tdiv_eq_ediv_of_nonneg h0
      have hp : (10 : Int) ^ (f + 1) = 10 * 10 ^ f := by rw [Int.pow_succ]; exact Int.mul_comm _ _
      rw [decide_eq_true h, if_pos h, cond_true, w64 (n := 48 + Int.tmod n 10) (by omega), w64 (n := Int.tdiv n 10) (by omega), bytes1, decide_eq_true (by unfold maxGrow; omega), cond_true]
      refine markText_l0_eq K0 f m _ _ (by omega) (by omega) (by omega) (by omega) ?_
      rw [ByteArray.size_append, bytes1]; omega
    · rw [decide_eq_false h, if_neg h]; rfl
theorem markText_eq {k : Nat} (hk : 21 < k) (n : Int) (h0 : 0 ≤ n) (hB : n ≤ 4000000000000000) (K : ByteArray → Option R) : laws_markText k n K = K (txtM n) := by
  unfold laws_markText txtM
  by_cases h : n ≤ 0
  · rw [decide_eq_true h, if_pos h]; rfl
  · have hs : (⟨#[]⟩ : ByteArray).size = 0 := rfl
    rw [decide_eq_false h, if_neg h, cond_false, markText_l0_eq _ 20 k n _ h0 (by have : (10 : Int) ^ 20 = 100000000000000000000 := by decide
                                                                                  omega) hB (by omega) (by rw [hs]; omega)]
    have h2 := txtGo_size 20 n (⟨#[]⟩ : ByteArray)
    have h3 : (⟨#[109]⟩ : ByteArray).size = 1 := rfl
    rw [decide_eq_true (by unfold maxGrow; rw [hs] at h2; rw [h3]; omega), cond_true]
/-! ### terrains and kinds -/
def fT (k : Int) (x : TerT) : TerT := (txtM k, mI (k + 1) x.2.1.length, k + 1 + x.2.1.length, k + 2 + x.2.1.length, decide (Int.tmod (k + 3 + x.2.1.length) 3 = 0))
def cT (x : TerT) : Nat := x.2.1.length + 4
def fK (k : Int) (x : KndT) : KndT := (txtM k, k + 1, k + 2, k + 3, decide (Int.tmod (k + 4) 3 = 0), k + 5)
def cK (x : KndT) : Nat := 6
theorem markTerrainS_k {k : Nat} (hk : 21 < k) (a : List TerT) (k0 : Int) (h0 : 0 ≤ k0) (hc : k0 + cS cT a ≤ 4000000000000000) (hl : a.length < k) (hb : a.length ≤ 137438953472) (hx : ∀ x ∈ a, x.2.1.length < k ∧ x.2.1.length ≤ 137438953472) (K : List TerT → Int → Option R) : laws_markTerrainS_in k a k0 K = K (fS fT cT k0 a) (k0 + (cS cT a : Int)) := by
  unfold laws_markTerrainS_in
  refine loop_mark fT cT (fun m k1 i s => laws_markTerrainS_in_l0 k (fun k_1 b => K b k_1) m k1 (i : Int) s) (fun k1 s => K s k1) (fun x => x.2.1.length < k ∧ x.2.1.length ≤ 137438953472) ?_ ?_ k [] a k0 hx h0 hc (by simpa using hb) hl
  · intro m k1 x pre r hx h0 h1 hl
    show laws_markTerrainS_in_l0 k _ (m + 1) k1 (pre.length : Int) (pre ++ x :: r) = laws_markTerrainS_in_l0 k _ m (k1 + (cT x : Nat)) ((pre.length + 1 : Nat) : Int) (pre ++ fT k1 x :: r)
    simp only [List.length_cons] at hl
    unfold cT at h1
    push_cast at h1
    have hB : k1 ≤ 4000000000000000 := by omega
    rw [laws_markTerrainS_in_l0, markText_eq hk k1 h0 hB, w64 (n := k1 + 1) (by omega)]
    simp only [toNatC, set_at', getD_at', len_at, lt_at, d0, cond_true, Bool.and_self]
    rw [markIntS_k x.2.1 (k1 + 1) ⟨by omega, by omega⟩ hx.1 hx.2]
    rw [w64 (n := k1 + 1 + (x.2.1.length : Int) + 1) (by omega), w64 (n := k1 + 1 + (x.2.1.length : Int) + 1 + 1) (by omega), w64 (n := k1 + 1 + (x.2.1.length : Int) + 1 + 1 + 1) (by omega), wsucc (by omega)]
    unfold fT cT
    push_cast
    rw [show k1 + 1 + (x.2.1.length : Int) + 1 + 1 + 1 = k1 + (x.2.1.length + 4) by omega, show k1 + 1 + (x.2.1.length : Int) + 1 + 1 = k1 + 3 + x.2.1.length by omega, show k1 + 1 + (x.2.1.length : Int) + 1 = k1 + 2 + x.2.1.length by omega]
    rw [show k1 + ((x.2.1.length : Int) + 1 + 1 + 1 + 1) = k1 + (x.2.1.length + 4) by omega]
  · intro m k1 s hs
    show laws_markTerrainS_in_l0 k _ (m + 1) k1 (s.length : Int) s = _
    rw [laws_markTerrainS_in_l0, dlt, decide_eq_false (by omega)]; rfl
theorem markKindS_k {k : Nat} (hk : 21 < k) (a : List KndT) (k0 : Int) (h0 : 0 ≤ k0) (hc : k0 + cS cK a ≤ 4000000000000000) (hl : a.length < k) (hb : a.length ≤ 137438953472) (K : List KndT → Int → Option R) : laws_markKindS_in k a k0 K = K (fS fK cK k0 a) (k0 + (cS cK a : Int)) := by
  unfold laws_markKindS_in
  refine loop_mark fK cK (fun m k1 i s => laws_markKindS_in_l0 k (fun k_1 b => K b k_1) m k1 (i : Int) s) (fun k1 s => K s k1) (fun x => True) ?_ ?_ k [] a k0 (fun _ _ => trivial) h0 hc (by simpa using hb) hl
  · intro m k1 x pre r hx h0 h1 hl
    show laws_markKindS_in_l0 k _ (m + 1) k1 (pre.length : Int) (pre ++ x :: r) = laws_markKindS_in_l0 k _ m (k1 + (cK x : Nat)) ((pre.length + 1 : Nat) : Int) (pre ++ fK k1 x :: r)
    simp only [List.length_cons] at hl
    unfold cK at h1
    push_cast at h1
    have hB : k1 ≤ 4000000000000000 := by omega
    rw [laws_markKindS_in_l0, markText_eq hk k1 h0 hB, w64 (n := k1 + 1) (by omega), w64 (n := k1 + 1 + 1) (by omega), w64 (n := k1 + 1 + 1 + 1) (by omega), w64 (n := k1 + 1 + 1 + 1 + 1) (by omega), w64 (n := k1 + 1 + 1 + 1 + 1 + 1) (by omega), w64 (n := k1 + 1 + 1 + 1 + 1 + 1 + 1) (by omega), wsucc (by omega)]
    simp only [toNatC, set_at', getD_at', len_at, lt_at, d0, cond_true, Bool.and_self]
    unfold fK cK
    push_cast
    rw [show k1 + 1 + 1 + 1 + 1 + 1 + 1 = k1 + 6 by omega, show k1 + 1 + 1 + 1 + 1 + 1 = k1 + 5 by omega, show k1 + 1 + 1 + 1 + 1 = k1 + 4 by omega, show k1 + 1 + 1 + 1 = k1 + 3 by omega, show k1 + 1 + 1 = k1 + 2 by omega]
  · intro m k1 s hs
    show laws_markKindS_in_l0 k _ (m + 1) k1 (s.length : Int) s = _
    rw [laws_markKindS_in_l0, dlt, decide_eq_false (by omega)]; rfl
/-! ### rules, maps, boards -/
def markR (k : Int) (r : RulT) : RulT := (fS fT cT k r.1, fS fK cK (k + cS cT r.1) r.2.1, r.2.2)
def cR (r : RulT) : Int := (cS cT r.1 : Int) + cS cK r.2.1
theorem cR_le {r : RulT} (hs : smallR r) : 0 ≤ cR r ∧ cR r ≤ 2199031644160 := by
  obtain ⟨s1, s2, s3, s4⟩ := hs
  have h1 := cS_small cT r.1 s1 (fun x hx => by have := (s3 x hx).2; unfold cT; omega)
  have h2 := cS_small cK r.2.1 s2 (fun x hx => by unfold cK; omega)
  unfold cR
  omega
theorem markRules_eq {r : RulT} (hs : smallR r) (k0 : Int) (h0 : 0 ≤ k0) (hB : k0 ≤ 1000000000000000) (K : RulT → Int → Option R) : laws_markRules_in 4194304 r k0 K = K (markR k0 r) (k0 + cR r) := by
  have hc := cR_le hs
  obtain ⟨s1, s2, s3, s4⟩ := hs
  have h1 := cS_small cT r.1 s1 (fun x hx => by have := (s3 x hx).2; unfold cT; omega)
  have h2 := cS_small cK r.2.1 s2 (fun x hx => by unfold cK; omega)
  unfold laws_markRules_in
  rw [markTerrainS_k (by omega) _ _ h0 (by omega) (by omega) (by omega) (fun x hx => by have := (s3 x hx).2; omega), markKindS_k (by omega) _ _ (by omega) (by omega) (by omega) (by omega)]
  unfold markR cR
  rw [show k0 + (cS cT r.1 : Int) + (cS cK r.2.1 : Int) = k0 + ((cS cT r.1 : Int) + cS cK r.2.1) by omega]
def markM (k : Int) (m : MapT) : MapT := (m.1, m.2.1, mI k m.2.2.1.length, mI (k + m.2.2.1.length) m.2.2.2.1.length, mI (k + m.2.2.1.length + m.2.2.2.1.length) m.2.2.2.2.length)
def cM (m : MapT) : Int := (m.2.2.1.length : Int) + m.2.2.2.1.length + m.2.2.2.2.length
theorem cM_le {m : MapT} (hs : small m) : 0 ≤ cM m ∧ cM m ≤ 3145728 := by
  obtain ⟨s1, s2, s3⟩ := hs
  unfold cM
  omega
theorem markMap_k {m : MapT} (hs : small m) (k0 : Int) (h0 : 0 ≤ k0) (hB : k0 ≤ 2000000000000000) (K : MapT → Int → Option R) : laws_markMap_in 4194304 m k0 K = K (markM k0 m) (k0 + cM m) := by
  obtain ⟨s1, s2, s3⟩ := hs
  unfold laws_markMap_in
  rw [markIntS_k _ _ ⟨h0, by omega⟩ (by omega) (by omega), markIntS_k _ _ ⟨by omega, by omega⟩ (by omega) (by omega), markIntS_k _ _ ⟨by omega, by omega⟩ (by omega) (by omega)]
  unfold markM cM
  rw [show k0 + (m.2.2.1.length : Int) + (m.2.2.2.1.length : Int) + (m.2.2.2.2.length : Int) = k0 + ((m.2.2.1.length : Int) + m.2.2.2.1.length + m.2.2.2.2.length) by omega]
def markB (k : Int) (b : BrdT) : BrdT := (markR k b.1, markM (k + cR b.1) b.2)
def cB (b : BrdT) : Int := cR b.1 + cM b.2
theorem cB_le {b : BrdT} (hs : smallB b) : 0 ≤ cB b ∧ cB b ≤ 2200000000000 := by
  have h1 := cR_le hs.1
  have h2 := cM_le hs.2
  unfold cB
  omega
theorem markBoard_eq {b : BrdT} (hs : smallB b) (K : BrdT → Int → Option R) : laws_markBoard_in 4194304 b 1 K = K (markB 1 b) (1 + cB b) := by
  have h1 := cR_le hs.1
  unfold laws_markBoard_in
  rw [markRules_eq hs.1 1 (by omega) (by omega), markMap_k hs.2 _ (by omega) (by omega)]
  unfold markB cB
  rw [show 1 + cR b.1 + cM b.2 = 1 + (cR b.1 + cM b.2) by omega]
  rfl
end
end Go.Lg
/- Counts of results; open hexes, unused terrains, stuck kinds: the laws. -/
set_option linter.unusedSimpArgs false
set_option linter.unusedVariables false
namespace Go.Lg
open Go Go.Ev
section
variable {R α σ ι : Type}
section
variable {t : TabT} {c : Int} (hg : goodT t = true) (h2 : 0 ≤ c) (h3 : c ≤ (t.1.length : Int) - 1)
include hg h2 h3
end
/-! ### open hexes -/
section
variable {b : BrdT} (hg : goodB b = true) {kind : Int} (hk : 0 ≤ kind ∧ kind < (b.1.2.1.length : Int))
include hg hk
end
/-! ### unused terrains -/
end
end Go.Lg
/- Stuck kinds: the law. -/
set_option linter.unusedSimpArgs false
set_option linter.unusedVariables false
namespace Go.Lg
open Go Go.Ev
section
variable {R α σ ι : Type}
theorem nextOf_lt {m : MapT} (hm : mapDim m) (i d : Int) : -1 ≤ nextOf m i d ∧ nextOf m i d < m.1 * m.2.1 := by
  have ha := area_le hm
  unfold nextOf ixOf
  cases hb : (inB (step (hexAt m i) d).1 0 (m.1 - 1) && inB (step (hexAt m i) d).2 0 (m.2.1 - 1))
  · simp; omega
  · have := mul_lt_area hm hb
    simp only [cond_true]
    omega
section
variable {b : BrdT} (hg : goodB b = true) {kind : Int} (hk : 0 ≤ kind ∧ kind < (b.1.2.1.length : Int))
include hg hk
end
end
end Go.Lg
/- Regions: walks over a graph, in plain words. -/
set_option linter.unusedSimpArgs false
set_option linter.unusedVariables false
namespace Go.Lg
open Go Go.Ev
section
variable {R α σ ι : Type}
/-! ### sorting and putting in -/
theorem sortI_perm (l : List Int) : (sortI l).Perm l := List.mergeSort_perm l _
theorem sortI_mem {l : List Int} {x : Int} : x ∈ sortI l ↔ x ∈ l := List.mem_mergeSort
theorem sortI_len (l : List Int) : (sortI l).length = l.length := List.length_mergeSort l
theorem sortI_up (l : List Int) : (sortI l).Pairwise (· ≤ ·) := by
  have := List.pairwise_mergeSort (le := fun (x y : Int) => decide (x ≤ y)) (fun a b c h1 h2 => by simp only [decide_eq_true_eq] at *; omega) (fun a b => by simp only [Bool.or_eq_true, decide_eq_true_eq]; omega) l
  exact this.imp (fun h => by simpa using h)
theorem sortI_uniq {l s : List Int} (h1 : s.Pairwise (· ≤ ·)) (h2 : s.Perm l) : sortI l = s :=
  List.Perm.eq_of_pairwise (le := (· ≤ ·)) (fun a b _ _ h3 h4 => by have h3 : a ≤ b := h3; have h4 : b ≤ a := h4; omega) (sortI_up l) h1 ((sortI_perm l).trans h2.symm)
def putI (n : Int) (l : List Int) : List Int := l.takeWhile (fun x => decide (x < n)) ++ [n] ++ l.dropWhile (fun x => decide (x < n))
theorem dropWhile_le {n : Int} : ∀ {l : List Int}, l.Pairwise (· ≤ ·) → ∀ x ∈ l.dropWhile (fun x => decide (x < n)), n ≤ x
  | [], _, x, h => by cases h
  | a :: l, hp, x, h => by
    rw [List.dropWhile_cons] at h
    obtain ⟨h1, h2⟩ := List.pairwise_cons.1 hp
    by_cases ha : a < n
    · rw [if_pos (by simpa using ha)] at h
      exact dropWhile_le h2 x h
    · rw [if_neg (by simpa using ha)] at h
      rcases List.mem_cons.1 h with rfl | h
      · omega
      · have := h1 x h; omega
theorem takeWhile_lt {n : Int} : ∀ {l : List Int}, ∀ x ∈ l.takeWhile (fun x => decide (x < n)), x < n
  | [], x, h => by cases h
  | a :: l, x, h => by
    rw [List.takeWhile_cons] at h
    by_cases ha : a < n
    · rw [if_pos (by simpa using ha)] at h
      rcases List.mem_cons.1 h with rfl | h
      · exact ha
      · exact takeWhile_lt x h
    · rw [if_neg (by simpa using ha)] at h
      cases h
theorem putI_perm (n : Int) (l : List Int) : (putI n l).Perm (l ++ [n]) := by
  have e : l.takeWhile (fun x => decide (x < n)) ++ l.dropWhile (fun x => decide (x < n)) = l := List.takeWhile_append_dropWhile
  unfold putI
  refine List.Perm.trans ?_ (List.Perm.append_right [n] (List.Perm.of_eq e))
  rw [List.append_assoc, List.append_assoc]
  exact List.Perm.append_left _ List.perm_append_comm
theorem putI_up {n : Int} {l : List Int} (h : l.Pairwise (· ≤ ·)) : (putI n l).Pairwise (· ≤ ·) := by
  unfold putI
  have h1 := h.sublist (List.takeWhile_sublist (fun x => decide (x < n)))
  have h2 := h.sublist (List.dropWhile_sublist (fun x => decide (x < n)))
  rw [List.append_assoc, List.pairwise_append]
  refine ⟨h1, ?_, ?_⟩
  · exact List.pairwise_cons.2 ⟨fun x hx => dropWhile_le h x hx, h2⟩
  · intro a ha b hb
    have ha := takeWhile_lt a ha
    rcases List.mem_cons.1 hb with rfl | hb
    · omega
    · have := dropWhile_le h b hb; omega
theorem putI_sort (n : Int) (l : List Int) : putI n (sortI l) = sortI (l ++ [n]) :=
  (sortI_uniq (putI_up (sortI_up l)) ((putI_perm n (sortI l)).trans (List.Perm.append_right [n] (sortI_perm l)))).symm
/-- A loop that goes to the first place where p ends. -/
theorem loop_upto (L : Nat → Nat → Option R) (x : List α) (p : α → Bool) (F : Nat → Option R)
    (hs : ∀ m i (h : i < x.length), L (m + 1) i = bif p x[i] then L m (i + 1) else F i) (he : ∀ m, L (m + 1) x.length = F x.length) : ∀ m i, i ≤ x.length → x.length - i < m → L m i = F (i + ((x.drop i).takeWhile p).length) := by
  intro m
  induction m with
  | zero => intro i h1 h2; omega
  | succ m ih =>
    intro i h1 h2
    rcases Nat.lt_or_ge i x.length with h | h
    · rw [hs m i h, List.drop_eq_getElem_cons h, List.takeWhile_cons]
      cases hp : p x[i]
      · simp
      · rw [cond_true, ih (i + 1) (by omega) (by omega), if_pos rfl, List.length_cons]
        congr 1; omega
    · have : i = x.length := by omega
      subst this
      rw [he, List.drop_length]; simp
theorem take_tw (l : List Int) (p : Int → Bool) : l.take (l.takeWhile p).length = l.takeWhile p := by
  conv => lhs; arg 2; rw [← List.takeWhile_append_dropWhile (p := p) (l := l)]
  exact List.take_left
theorem drop_tw (l : List Int) (p : Int → Bool) : l.drop (l.takeWhile p).length = l.dropWhile p := by
  conv => lhs; arg 2; rw [← List.takeWhile_append_dropWhile (p := p) (l := l)]
  exact List.drop_left
theorem l1Put_eq {k : Nat} (l : List Int) (n : Int) (h : l.length < k) (hb : l.length ≤ 1000000) (hn : n ∉ l) (K : List Int → Option R) : spec_l1Put k l n K = K (putI n l) := by
  unfold spec_l1Put
  generalize hF : (fun (l1 : List Int) (n_2 : Int) (k_0 : Int) => _ : List Int → Int → Int → Option R) = F
  have := loop_upto (fun m i => spec_l1Put_l0 k F m l n (i : Int)) l (fun x => decide (x < n)) (fun i => F l n (i : Int)) ?_ ?_ k 0 (Nat.zero_le _) (by omega)
  · refine Eq.trans this ?_
    rw [List.drop_zero, Nat.zero_add]
    have ht := take_tw l (fun x => decide (x < n))
    have hd := drop_tw l (fun x => decide (x < n))
    have hle : (l.takeWhile (fun x => decide (x < n))).length ≤ l.length := List.Sublist.length_le (List.takeWhile_sublist _)
    obtain ⟨j, hj⟩ : ∃ j, j = (l.takeWhile (fun x => decide (x < n))).length := ⟨_, rfl⟩
    rw [← hj] at ht hd hle ⊢
    unfold putI
    rw [← ht, ← hd, ← hF]
    have e2 : List.drop j (List.take l.length l) = List.drop j l := by rw [List.take_length]
    have hj1 : (List.take j l).length = j := by rw [List.length_take]; omega
    show (bif decide ((j : Int) < (l.length : Int)) then _ else _) = _
    simp only [toNatC, List.nil_append, e2, List.drop_zero]
    have m1 : decide (0 + (List.take j l).length ≤ maxGrow) = true := decide_eq_true (by unfold maxGrow; omega)
    have m2 : decide ((List.take j l).length + [n].length ≤ maxGrow) = true := decide_eq_true (by unfold maxGrow; simp; omega)
    have m3 : decide ((List.take j l ++ [n]).length + (List.drop j l).length ≤ maxGrow) = true := decide_eq_true (by unfold maxGrow; simp; omega)
    have m4 : decide ((j : Int) ≤ (l.length : Int)) = true := decide_eq_true (by omega)
    rw [m1, m2, m3, m4, d0]
    rcases Nat.lt_or_ge j l.length with hlt | hge
    · have hne : l.getD j 0 ≠ n := by rw [getD_lt hlt]; intro e; exact hn (e ▸ List.getElem_mem hlt)
      rw [decide_eq_true (by omega : (j : Int) < (l.length : Int)), decide_eq_false hne]; rfl
    · rw [decide_eq_false (by omega : ¬ (j : Int) < (l.length : Int))]; rfl
  · intro m i hi
    show spec_l1Put_l0 k F (m + 1) l n (i : Int) = bif _ then spec_l1Put_l0 k F m l n ((i + 1 : Nat) : Int) else _
    rw [spec_l1Put_l0, dlt, d0, decide_eq_true hi, toNatC, getD_lt hi, wsucc (by omega)]
    rfl
  · intro m
    show spec_l1Put_l0 k F (m + 1) l n (l.length : Int) = _
    rw [spec_l1Put_l0, dlt, decide_eq_false (by omega)]; rfl
/-! ### the walk over a graph -/
section
variable (adj : Int → List Int) (op : Int → Bool)
/-- What can be reached. -/
inductive Rc (i : Int) : Int → Prop
  | refl : Rc i i
  | step {c x : Int} : Rc i c → x ∈ adj c → op x = true → Rc i x
/-- A list of places of the map, each once. -/
def okQ (N : Nat) (Q : List Int) : Prop := Q.Nodup ∧ ∀ x ∈ Q, 0 ≤ x ∧ x < (N : Int)
variable {adj op}
theorem okQ_len {N : Nat} {Q : List Int} (h : okQ N Q) : Q.length ≤ N := by
  have hs : Q ⊆ (List.range N).map fun (i : Nat) => (i : Int) := by
    intro x hx
    have := h.2 x hx
    exact List.mem_map.2 ⟨x.toNat, List.mem_range.2 (by omega), by omega⟩
  have := List.Nodup.length_le_of_subset h.1 hs
  simpa using this
theorem Rc.trans {a b c : Int} (h1 : Rc adj op a b) (h2 : Rc adj op b c) : Rc adj op a c := by
  induction h2 with
  | refl => exact h1
  | step _ h3 h4 ih => exact .step ih h3 h4
theorem Rc.op_of {a b : Int} (h : Rc adj op a b) (ha : op a = true) : op b = true := by
  cases h with
  | refl => exact ha
  | step _ _ h => exact h
theorem Rc.symm (hs : ∀ c, op c = true → ∀ x ∈ adj c, c ∈ adj x) {a b : Int} (h : Rc adj op a b) (ha : op a = true) : Rc adj op b a := by
  induction h with
  | refl => exact .refl
  | step h1 h3 h4 ih => exact Rc.trans (.step .refl (hs _ (h1.op_of ha) _ h3) (h1.op_of ha)) ih
/-! ### the regions, one after another -/
end
end
end Go.Lg
/- Regions of a board: what the functions answer. -/
set_option linter.unusedSimpArgs false
set_option linter.unusedVariables false
namespace Go.Lg
open Go Go.Ev
section
variable {R α σ ι : Type}
/-! ### a neighbour's neighbour -/
theorem hexAt_in {m : MapT} (hm : mapDim m) {h : Int × Int} (hb : (inB h.1 0 (m.1 - 1) && inB h.2 0 (m.2.1 - 1)) = true) : hexAt m (h.2 * m.1 + h.1) = h := by
  have hl := mul_lt_area hm hb
  simp only [Bool.and_eq_true, inB_iff] at hb
  obtain ⟨⟨h1, h2⟩, h3, h4⟩ := hb
  obtain ⟨⟨m1, m2⟩, m3, m4⟩ := hm
  unfold hexAt
  rw [Int.tmod_eq_emod_of_nonneg (by omega), Int.tdiv_eq_ediv_of_nonneg (by omega)]
  have e1 : (h.2 * m.1 + h.1) % m.1 = h.1 := by
    rw [Int.add_comm, Int.add_mul_emod_self_right]; exact Int.emod_eq_of_lt h1 (by omega)
  have e2 : (h.2 * m.1 + h.1) / m.1 = h.2 := by
    rw [Int.add_comm, Int.add_mul_ediv_right _ _ (by omega), Int.ediv_eq_zero_of_lt h1 (by omega)]; omega
  rw [e1, e2]
theorem hexAt_box {m : MapT} (hm : mapDim m) {i : Int} (hi : 0 ≤ i ∧ i < m.1 * m.2.1) : (inB (hexAt m i).1 0 (m.1 - 1) && inB (hexAt m i).2 0 (m.2.1 - 1)) = true ∧ (hexAt m i).2 * m.1 + (hexAt m i).1 = i := by
  obtain ⟨⟨m1, m2⟩, m3, m4⟩ := hm
  unfold hexAt
  rw [Int.tmod_eq_emod_of_nonneg hi.1, Int.tdiv_eq_ediv_of_nonneg hi.1]
  have e1 := Int.emod_nonneg i (by omega : m.1 ≠ 0)
  have e2 := Int.emod_lt_of_pos i (by omega : 0 < m.1)
  have e3 : 0 ≤ i / m.1 := Int.ediv_nonneg hi.1 (by omega)
  have e4 : i / m.1 < m.2.1 := Int.ediv_lt_of_lt_mul (by omega) (by rw [Int.mul_comm]; exact hi.2)
  have e5 : i / m.1 * m.1 + i % m.1 = i := by rw [Int.mul_comm]; exact Int.mul_ediv_add_emod i m.1
  refine ⟨?_, e5⟩
  simp only [Bool.and_eq_true, inB_iff]
  exact ⟨⟨e1, by omega⟩, e3, by omega⟩
def opp (d : Nat) : Nat := (d + 3) % 6
theorem step_opp (h : Int × Int) {d : Nat} (hd : d < 6) : step (step h (d : Int)) (opp d : Int) = h := by
  have : d = 0 ∨ d = 1 ∨ d = 2 ∨ d = 3 ∨ d = 4 ∨ d = 5 := by omega
  unfold step
  obtain ⟨x, y⟩ := h
  rcases this with rfl | rfl | rfl | rfl | rfl | rfl <;> (rw [toNatC, toNatC]; simp [opp, impl_directions]; try omega)
theorem nextOf_back {m : MapT} (hm : mapDim m) {i : Int} (hi : 0 ≤ i ∧ i < m.1 * m.2.1) {d : Nat} (hd : d < 6) (h : 0 ≤ nextOf m i (d : Int)) : nextOf m (nextOf m i (d : Int)) (opp d : Int) = i := by
  have hb : (inB (step (hexAt m i) (d : Int)).1 0 (m.1 - 1) && inB (step (hexAt m i) (d : Int)).2 0 (m.2.1 - 1)) = true := by
    cases hb : (inB (step (hexAt m i) (d : Int)).1 0 (m.1 - 1) && inB (step (hexAt m i) (d : Int)).2 0 (m.2.1 - 1))
    · unfold nextOf ixOf at h
      rw [hb] at h
      simp at h
    · rfl
  obtain ⟨h1, h2⟩ := hexAt_box hm hi
  have e : nextOf m i (d : Int) = (step (hexAt m i) (d : Int)).2 * m.1 + (step (hexAt m i) (d : Int)).1 := by
    unfold nextOf ixOf
    rw [hb]; rfl
  rw [e]
  show ixOf m (step (hexAt m ((step (hexAt m i) (d : Int)).2 * m.1 + (step (hexAt m i) (d : Int)).1)) (opp d : Int)) = i
  rw [hexAt_in hm hb, step_opp _ hd]
  unfold ixOf
  rw [h1]
  exact h2
section
variable {b : BrdT} (hg : goodB b = true) {kind : Int} (hk : 0 ≤ kind ∧ kind < (b.1.2.1.length : Int))
include hg
include hk
end
/-! ### the marks of what was seen -/
section
variable {b : BrdT} (hg : goodB b = true) {kind : Int} (hk : 0 ≤ kind ∧ kind < (b.1.2.1.length : Int))
include hg hk
end
end
end Go.Lg
/- The mirrored map: the law. -/
set_option linter.unusedSimpArgs false
set_option linter.unusedVariables false
namespace Go.Lg
open Go Go.Ev
section
variable {R α σ ι : Type}
/-! ### places and edges of the mirrored map -/
def mirIx (m : MapT) (i : Int) : Int := (hexAt m i).1 * m.2.1 + (hexAt m i).2
/-- A map of the mirrored sides. -/
def turnM (m : MapT) (t r s : List Int) : MapT := (m.2.1, (m.1, (t, (r, s))))
theorem turn_dim {m : MapT} (hm : mapDim m) (t r s : List Int) : mapDim (turnM m t r s) := ⟨hm.2, hm.1⟩
theorem mirIx_box {m : MapT} (hm : mapDim m) {i : Int} (hi : 0 ≤ i ∧ i < m.1 * m.2.1) (t r s : List Int) :
    (0 ≤ mirIx m i ∧ mirIx m i < m.1 * m.2.1) ∧ hexAt (turnM m t r s) (mirIx m i) = ((hexAt m i).2, (hexAt m i).1) := by
  obtain ⟨hb, _⟩ := hexAt_box hm hi
  have hb' : (inB ((hexAt m i).2, (hexAt m i).1).1 0 ((turnM m t r s).1 - 1) && inB ((hexAt m i).2, (hexAt m i).1).2 0 ((turnM m t r s).2.1 - 1)) = true := by
    rw [Bool.and_comm]; exact hb
  have hl := mul_lt_area (turn_dim hm t r s) hb'
  have he := hexAt_in (turn_dim hm t r s) hb'
  refine ⟨?_, he⟩
  have h2 : 0 ≤ (hexAt m i).1 * m.2.1 + (hexAt m i).2 ∧ (hexAt m i).1 * m.2.1 + (hexAt m i).2 ≤ m.2.1 * m.1 - 1 := hl.2
  rw [Int.mul_comm m.2.1 m.1] at h2
  unfold mirIx; omega
theorem mirIx_inj {m : MapT} (hm : mapDim m) {i j : Int} (hi : 0 ≤ i ∧ i < m.1 * m.2.1) (hj : 0 ≤ j ∧ j < m.1 * m.2.1) (h : mirIx m i = mirIx m j) : i = j := by
  have h1 := (mirIx_box hm hi [] [] []).2
  have h2 := (mirIx_box hm hj [] [] []).2
  rw [h, h2] at h1
  have h3 : (hexAt m i).1 = (hexAt m j).1 := (congrArg Prod.snd h1).symm
  have h4 : (hexAt m i).2 = (hexAt m j).2 := (congrArg Prod.fst h1).symm
  rw [← (hexAt_box hm hi).2, ← (hexAt_box hm hj).2, h3, h4]
theorem step_swap (h : Int × Int) {d : Nat} (hd : d < 6) : step (h.2, h.1) ((5 - d : Nat) : Int) = ((step h (d : Int)).2, (step h (d : Int)).1) := by
  have : d = 0 ∨ d = 1 ∨ d = 2 ∨ d = 3 ∨ d = 4 ∨ d = 5 := by omega
  unfold step
  obtain ⟨x, y⟩ := h
  rcases this with rfl | rfl | rfl | rfl | rfl | rfl <;> (rw [toNatC, toNatC]; simp [impl_directions])
theorem nextOf_turn {m : MapT} (hm : mapDim m) {i : Int} (hi : 0 ≤ i ∧ i < m.1 * m.2.1) {d : Nat} (hd : d < 6) (h : 0 ≤ nextOf m i (d : Int)) (t r s : List Int) : 0 ≤ nextOf (turnM m t r s) (mirIx m i) ((5 - d : Nat) : Int) ∧ nextOf (turnM m t r s) (mirIx m i) ((5 - d : Nat) : Int) < m.1 * m.2.1 := by
  have hb : (inB (step (hexAt m i) (d : Int)).1 0 (m.1 - 1) && inB (step (hexAt m i) (d : Int)).2 0 (m.2.1 - 1)) = true := by
    cases hb : (inB (step (hexAt m i) (d : Int)).1 0 (m.1 - 1) && inB (step (hexAt m i) (d : Int)).2 0 (m.2.1 - 1))
    · unfold nextOf ixOf at h
      rw [hb] at h
      simp at h
    · rfl
  have hx : nextOf (turnM m t r s) (mirIx m i) ((5 - d : Nat) : Int) = ixOf (turnM m t r s) ((step (hexAt m i) (d : Int)).2, (step (hexAt m i) (d : Int)).1) := by
    unfold nextOf
    rw [(mirIx_box hm hi t r s).2, step_swap _ hd]
  have hlt := nextOf_lt (turn_dim hm t r s) (mirIx m i) ((5 - d : Nat) : Int)
  have hlt2 : nextOf (turnM m t r s) (mirIx m i) ((5 - d : Nat) : Int) < m.2.1 * m.1 := hlt.2
  rw [Int.mul_comm m.2.1 m.1] at hlt2
  refine ⟨?_, hlt2⟩
  have hb' : (inB ((step (hexAt m i) (d : Int)).2, (step (hexAt m i) (d : Int)).1).1 0 ((turnM m t r s).1 - 1) && inB ((step (hexAt m i) (d : Int)).2, (step (hexAt m i) (d : Int)).1).2 0 ((turnM m t r s).2.1 - 1)) = true := by
    rw [Bool.and_comm]; exact hb
  rw [hx]
  unfold ixOf
  rw [hb']
  exact (mul_lt_area (turn_dim hm t r s) hb').2.1
/-- A valid edge's mirror. -/
def mirE (m : MapT) (e : Int) : Int := 3 * nextOf (turnM m [] [] []) (mirIx m (Int.tdiv e 3)) (5 - Int.tmod e 3) + (2 - Int.tmod e 3)
theorem edge_ok {m : MapT} (hm : mapDim m) {e : Int} (h : edgeB m e = true) : (0 ≤ Int.tdiv e 3 ∧ Int.tdiv e 3 < m.1 * m.2.1) ∧ ∃ d : Nat, d ≤ 2 ∧ Int.tmod e 3 = (d : Int) ∧ 0 ≤ nextOf m (Int.tdiv e 3) (d : Int) ∧ e = 3 * Int.tdiv e 3 + (d : Int) := by
  unfold edgeB at h
  simp only [Bool.and_eq_true, decide_eq_true_eq] at h
  obtain ⟨h1, h2⟩ := h
  obtain ⟨⟨p1, p2, p3⟩, p4, p5⟩ := edge_parts hm h1
  rw [inB_iff] at h1
  refine ⟨by omega, (Int.tmod e 3).toNat, by omega, by omega, ?_, ?_⟩
  · rw [show (((Int.tmod e 3).toNat : Nat) : Int) = Int.tmod e 3 by omega]; exact h2
  · have := Int.mul_tdiv_add_tmod e 3
    omega
theorem edgeAt_mir {m : MapT} (hm : mapDim m) {e : Int} (h : edgeB m e = true) (t r s : List Int) : edgeAt (turnM m t r s) (mirIx m (Int.tdiv e 3)) (5 - Int.tmod e 3) = mirE m e ∧ 0 ≤ nextOf (turnM m t r s) (mirIx m (Int.tdiv e 3)) (5 - Int.tmod e 3) ∧ (0 ≤ mirE m e ∧ mirE m e < ((300 : Nat) : Int)) := by
  obtain ⟨hi, d, hd, e1, h2, e2⟩ := edge_ok hm h
  have ha := area_le hm
  obtain ⟨g1, g2⟩ := nextOf_turn hm hi (by omega : d < 6) h2 t r s
  have e5 : (5 : Int) - (d : Int) = ((5 - d : Nat) : Int) := by omega
  have hsame : nextOf (turnM m [] [] []) (mirIx m (Int.tdiv e 3)) ((5 - d : Nat) : Int) = nextOf (turnM m t r s) (mirIx m (Int.tdiv e 3)) ((5 - d : Nat) : Int) := rfl
  unfold edgeAt mirE
  rw [e1, e5, hsame, if_neg (by omega)]
  refine ⟨by omega, g1, by omega, by omega⟩
theorem mirE_inj {m : MapT} (hm : mapDim m) {e f : Int} (he : edgeB m e = true) (hf : edgeB m f = true) (h : mirE m e = mirE m f) : e = f := by
  obtain ⟨hi, d, hd, e1, h2, e2⟩ := edge_ok hm he
  obtain ⟨hj, c, hc, f1, k2, f2⟩ := edge_ok hm hf
  unfold mirE at h
  rw [e1, f1] at h
  have hdc : d = c := by omega
  subst hdc
  have e5 : (5 : Int) - (d : Int) = ((5 - d : Nat) : Int) := by omega
  rw [e5] at h
  have g1 := (nextOf_turn hm hi (by omega : d < 6) h2 [] [] []).1
  have g2 := (nextOf_turn hm hj (by omega : d < 6) k2 [] [] []).1
  have b1 := (mirIx_box hm hi [] [] []).1
  have b2 := (mirIx_box hm hj [] [] []).1
  have harea : (turnM m [] [] []).1 * (turnM m [] [] []).2.1 = m.1 * m.2.1 := Int.mul_comm m.2.1 m.1
  have q1 := nextOf_back (turn_dim hm [] [] []) (i := mirIx m (Int.tdiv e 3)) (by rw [harea]; exact b1) (d := 5 - d) (by omega) g1
  have q2 := nextOf_back (turn_dim hm [] [] []) (i := mirIx m (Int.tdiv f 3)) (by rw [harea]; exact b2) (d := 5 - d) (by omega) g2
  have hn : nextOf (turnM m [] [] []) (mirIx m (Int.tdiv e 3)) ((5 - d : Nat) : Int) = nextOf (turnM m [] [] []) (mirIx m (Int.tdiv f 3)) ((5 - d : Nat) : Int) := by omega
  rw [hn, q2] at q1
  have := mirIx_inj hm hj hi q1
  omega
theorem incr_lt {l : List Int} (h : incr l = true) : ∀ j i, i < j → j < l.length → l.getD i 0 < l.getD j 0 := by
  unfold incr at h
  rw [List.all_eq_true] at h
  intro j
  induction j with
  | zero => intro i hi; omega
  | succ j ih =>
    intro i hi hj
    have h1 := h (j + 1) (List.mem_range.2 hj)
    unfold upAt at h1
    simp only [Bool.or_eq_true, decide_eq_true_eq, beq_iff_eq, Nat.add_sub_cancel] at h1
    have h1 : l.getD j 0 < l.getD (j + 1) 0 := h1.resolve_left (by omega)
    rcases Nat.lt_or_ge i j with h2 | h2
    · have := ih i h2 (by omega); omega
    · have : i = j := by omega
      subst this; exact h1
theorem incr_nodup {l : List Int} (h : incr l = true) : l.Nodup := by
  rw [List.Nodup, List.pairwise_iff_getElem]
  intro i j hi hj hij
  have := incr_lt h j i hij hj
  rw [getD_lt hi, getD_lt hj] at this
  omega
theorem nodup_map {l : List Int} {f : Int → Int} (hl : l.Nodup) (hf : ∀ x ∈ l, ∀ y ∈ l, f x = f y → x = y) : (l.map f).Nodup := by
  rw [List.Nodup, List.pairwise_map]
  exact List.Pairwise.imp_of_mem (fun ha hb hne e => hne (hf _ ha _ hb e)) hl
section
variable {m : MapT} (hm : mapDim m)
include hm
theorem edges_ok {l : List Int} (h : edgesB m l = true) : (∀ e ∈ l, edgeB m e = true) ∧ l.Nodup ∧ okQ 300 l := by
  unfold edgesB at h
  simp only [Bool.and_eq_true, List.all_eq_true] at h
  have ha := area_le hm
  refine ⟨h.1, incr_nodup h.2, incr_nodup h.2, fun e he => ?_⟩
  obtain ⟨hi, d, hd, e1, h2, e2⟩ := edge_ok hm (h.1 e he)
  omega
theorem mirL_ok {l : List Int} (h : edgesB m l = true) : okQ 300 (l.map (mirE m)) := by
  obtain ⟨h1, h2, _⟩ := edges_ok hm h
  refine ⟨nodup_map h2 (fun x hx y hy e => mirE_inj hm (h1 x hx) (h1 y hy) e), fun y hy => ?_⟩
  obtain ⟨e, he, rfl⟩ := List.mem_map.1 hy
  exact (edgeAt_mir hm (h1 e he) [] [] []).2.2
theorem sIndex_eq {i : Int} (hi : 0 ≤ i ∧ i < m.1 * m.2.1) (K : Int → Option R) : spec_mMirrorIndex m i K = K (mirIx m i) := by
  have ha := area_le hm
  have hb := (mirIx_box hm hi [] [] []).1
  have hx := hexAt_le hm (i := i) (by omega)
  have hp : 0 ≤ (hexAt m i).1 * m.2.1 := Int.mul_nonneg hx.1.1 (by have := hm.2.1; omega)
  unfold mirIx at hb
  unfold spec_mMirrorIndex
  rw [mHex_eq hm (by omega), w64 (n := (hexAt m i).1 * m.2.1) (by omega), w64 (by omega)]
  rfl
theorem iIndex_eq {i : Int} (hi : 0 ≤ i ∧ i < m.1 * m.2.1) (K : Int → Option R) : impl_mirrorIndex m i K = K (mirIx m i) := by
  have ha := area_le hm
  have hb := (mirIx_box hm hi [] [] []).1
  have hx := hexAt_le hm (i := i) (by omega)
  have hp : 0 ≤ (hexAt m i).1 * m.2.1 := Int.mul_nonneg hx.1.1 (by have := hm.2.1; omega)
  unfold mirIx at hb
  unfold impl_mirrorIndex
  have h1 : (hexAt m i).1 = Int.tmod i m.1 := rfl
  have h2 : (hexAt m i).2 = Int.tdiv i m.1 := rfl
  rw [h1, h2] at hb
  rw [h1] at hp
  rw [decide_eq_false (by have := hm.1.1; omega), w64 (n := Int.tmod i m.1 * m.2.1) (by omega), w64 (n := Int.tdiv i m.1) (by omega), w64 (by omega)]
  rfl
theorem sEdges_eq {k : Nat} (hk : 10000 < k) {l : List Int} (h : edgesB m l = true) (t r s : List Int) (K : List Int → Option R) : spec_mMirrorEdges k m (turnM m t r s) l K = K (sortI (l.map (mirE m))) := by
  obtain ⟨h1, h2, h3⟩ := edges_ok hm h
  have hl := okQ_len h3
  have ha := area_le hm
  have hmir := mirL_ok hm h
  unfold spec_mMirrorEdges
  have e0 : ([] : List Int) = sortI ((l.take 0).map (mirE m)) := (sortI_uniq (by simp) (by simp)).symm
  rw [e0]
  refine loop_det (fun q j s' => spec_mMirrorEdges_l0 k (fun e => K e) q s' l (l.length : Int) (j : Int) m (turnM m t r s)) l.length (fun j => sortI ((l.take j).map (mirE m))) _ ?_ ?_ k 0 (Nat.zero_le _) (by omega)
  · intro q j hj
    have hb := h1 _ (List.getElem_mem hj)
    obtain ⟨hi, d, hd, e1, g2, e2⟩ := edge_ok hm hb
    obtain ⟨e3, e4, e5⟩ := edgeAt_mir hm hb t r s
    have hbx := (mirIx_box hm hi [] [] []).1
    have hnot : mirE m l[j] ∉ (l.take j).map (mirE m) := by
      intro hmem
      have hnd := hmir.1
      rw [← List.take_append_drop j l, List.map_append, List.nodup_append, List.drop_eq_getElem_cons hj] at hnd
      exact hnd.2.2 _ hmem (mirE m l[j]) (List.mem_map.2 ⟨l[j], List.mem_cons_self, rfl⟩) rfl
    show spec_mMirrorEdges_l0 k _ (q + 1) (sortI ((l.take j).map (mirE m))) l _ (j : Int) m (turnM m t r s) = spec_mMirrorEdges_l0 k _ q (sortI ((l.take (j + 1)).map (mirE m))) l _ ((j + 1 : Nat) : Int) m (turnM m t r s)
    rw [spec_mMirrorEdges_l0, dlt, d0, decide_eq_true hj, toNatC, getD_lt hj, wsucc (by omega), w64 (n := Int.tdiv l[j] 3) (by omega), w64 (n := 5 - Int.tmod l[j] 3) (by omega), sIndex_eq hm hi, mEdge_eq (turn_dim hm t r s) (by omega) (by omega), e3, l1Put_eq _ _ (by rw [sortI_len]; simp; omega) (by rw [sortI_len]; simp; omega) (fun hh => hnot (sortI_mem.1 hh)), putI_sort, List.take_succ_eq_append_getElem hj, List.map_append]
    rfl
  · intro q
    show spec_mMirrorEdges_l0 k _ (q + 1) _ l (l.length : Int) (l.length : Int) m _ = _
    rw [spec_mMirrorEdges_l0, dlt, decide_eq_false (by omega), List.take_length]; rfl
theorem iEdges_eq {k : Nat} (hk : 10000 < k) {l : List Int} (h : edgesB m l = true) (t r s : List Int) (K : List Int → Option R) : impl_mirrorMap_1 k l (turnM m t r s) m K = K (sortI (l.map (mirE m))) := by
  obtain ⟨h1, h2, h3⟩ := edges_ok hm h
  have hl := okQ_len h3
  have ha := area_le hm
  unfold impl_mirrorMap_1
  have e0 : ([] : List Int) = (l.take 0).map (mirE m) := by simp
  rw [e0]
  have hfin : slices_Sort (l.map (mirE m)) (fun t => K t) = K (sortI (l.map (mirE m))) := by
    unfold slices_Sort; rw [decide_eq_true (by rw [List.length_map]; omega)]; rfl
  refine loop_det (fun q j s' => impl_mirrorMap_1_l0 k (fun e => slices_Sort e fun t => K t) q (turnM m t r s) m l (l.length : Int) (j : Int) s') l.length (fun j => (l.take j).map (mirE m)) _ ?_ ?_ k 0 (Nat.zero_le _) (by omega)
  · intro q j hj
    have hb := h1 _ (List.getElem_mem hj)
    obtain ⟨hi, d, hd, e1, g2, e2⟩ := edge_ok hm hb
    obtain ⟨e3, e4, e5⟩ := edgeAt_mir hm hb t r s
    have hbx := (mirIx_box hm hi [] [] []).1
    show impl_mirrorMap_1_l0 k _ (q + 1) (turnM m t r s) m l _ (j : Int) ((l.take j).map (mirE m)) = impl_mirrorMap_1_l0 k _ q (turnM m t r s) m l _ ((j + 1 : Nat) : Int) ((l.take (j + 1)).map (mirE m))
    rw [impl_mirrorMap_1_l0, dlt, d0, decide_eq_true hj, toNatC, getD_lt hj, wsucc (by omega), w64 (n := Int.tdiv l[j] 3) (by omega), w64 (n := 5 - Int.tmod l[j] 3) (by omega), iIndex_eq hm hi, edgeOf_eq (turn_dim hm t r s) (by omega) (by omega) e4, e3, decide_eq_true (p := ((l.take j).map (mirE m)).length + [mirE m l[j]].length ≤ maxGrow) (by unfold maxGrow; simp; omega), List.take_succ_eq_append_getElem hj, List.map_append]
    rfl
  · intro q
    show impl_mirrorMap_1_l0 k _ (q + 1) (turnM m t r s) m l (l.length : Int) (l.length : Int) ((l.take l.length).map (mirE m)) = _
    rw [impl_mirrorMap_1_l0, dlt, decide_eq_false (by omega), List.take_length]
    exact hfin
end
/-- The mirrored terrain, in the making. -/
def turnT (m : MapT) (n : Nat) : List Int := (List.range n).foldl (fun (s : List Int) (j : Nat) => List.set s (Int.toNat (mirIx m (j : Int))) (List.getD m.2.2.1 j 0)) (List.replicate m.2.2.1.length 0)
theorem turnT_succ (m : MapT) (n : Nat) : turnT m (n + 1) = List.set (turnT m n) (Int.toNat (mirIx m (n : Int))) (List.getD m.2.2.1 n 0) := by
  unfold turnT
  rw [List.range_succ, List.foldl_append]; rfl
theorem turnT_len (m : MapT) : ∀ n, (turnT m n).length = m.2.2.1.length
  | 0 => by simp [turnT]
  | n + 1 => by rw [turnT_succ, List.length_set, turnT_len m n]
def mirM (m : MapT) : MapT := turnM m (turnT m m.2.2.1.length) (sortI (m.2.2.2.1.map (mirE m))) (sortI (m.2.2.2.2.map (mirE m)))
section
variable {m : MapT} (hg : good m = true)
include hg
theorem mMirror_eq {k : Nat} (hk : 10000 < k) (K : MapT → Option R) : spec_mMirror k m K = K (mirM m) := by
  have hm := good_dim hg
  have ha := area_le hm
  have hlen := ter_len hg
  have he : edgesB m m.2.2.2.1 = true ∧ edgesB m m.2.2.2.2 = true := by
    unfold good at hg
    simp only [Bool.and_eq_true] at hg
    exact hg.2.2.2.2
  unfold spec_mMirror
  rw [mSize_eq hm, decide_eq_true (by omega : (0 : Int) ≤ m.1 * m.2.1), decide_eq_true (by omega : m.1 * m.2.1 ≤ 137438953472), decide_eq_true rfl, ← hlen, toNatC]
  have e0 : List.replicate m.2.2.1.length (0 : Int) = turnT m 0 := rfl
  rw [e0]
  generalize hF : (fun (m_1 : MapT) (x4 : Int) (x5 : Int) (out1 : Int) (out2 : Int) (b5 : List Int) (b6 : List Int) (b7 : List Int) (b8 : List Int) (b9 : List Int) (b10 : List Int) => _ : MapT → Int → Int → Int → Int → List Int → List Int → List Int → List Int → List Int → List Int → Option R) = F
  refine loop_det (fun q j s => spec_mMirror_l0 k F q m.2.2.1 (m.2.2.1.length : Int) (j : Int) m 0 0 m.2.1 m.1 [] [] [] s [] []) m.2.2.1.length (turnT m) _ ?_ ?_ k 0 (Nat.zero_le _) (by omega)
  · intro q j hj
    have hb := (mirIx_box hm (i := (j : Int)) (by omega) [] [] []).1
    show spec_mMirror_l0 k F (q + 1) m.2.2.1 _ (j : Int) m 0 0 m.2.1 m.1 [] [] [] (turnT m j) [] [] = spec_mMirror_l0 k F q m.2.2.1 _ ((j + 1 : Nat) : Int) m 0 0 m.2.1 m.1 [] [] [] (turnT m (j + 1)) [] []
    rw [spec_mMirror_l0, dlt, d0, decide_eq_true hj, wsucc (by omega), turnT_len, sIndex_eq hm (by omega), decide_eq_true hb.1, decide_eq_true (by omega : mirIx m (j : Int) < (m.2.2.1.length : Int)), toNatC, turnT_succ]
    rfl
  · intro q
    show spec_mMirror_l0 k F (q + 1) m.2.2.1 (m.2.2.1.length : Int) (m.2.2.1.length : Int) m 0 0 m.2.1 m.1 [] [] [] (turnT m m.2.2.1.length) [] [] = _
    rw [spec_mMirror_l0, dlt, decide_eq_false (by omega), cond_false, ← hF]
    show spec_mMirrorEdges k m (turnM m (turnT m m.2.2.1.length) [] []) m.2.2.2.1 _ = _
    rw [sEdges_eq hm hk he.1]
    show spec_mMirrorEdges k m (turnM m (turnT m m.2.2.1.length) _ []) m.2.2.2.2 _ = _
    rw [sEdges_eq hm hk he.2]
    rfl
theorem mirrorMap_eq {k : Nat} (hk : 10000 < k) (K : MapT → Option R) : impl_mirrorMap k m K = K (mirM m) := by
  have hm := good_dim hg
  have ha := area_le hm
  have hlen := ter_len hg
  have he : edgesB m m.2.2.2.1 = true ∧ edgesB m m.2.2.2.2 = true := by
    unfold good at hg
    simp only [Bool.and_eq_true] at hg
    exact hg.2.2.2.2
  unfold impl_mirrorMap
  rw [d0, decide_eq_true (by omega : (m.2.2.1.length : Int) ≤ 137438953472), decide_eq_true rfl, toNatC]
  have e0 : List.replicate m.2.2.1.length (0 : Int) = turnT m 0 := rfl
  rw [e0]
  generalize hF : (fun (m_1 : MapT) (x4 : Int) (x5 : Int) (out1 : Int) (out2 : Int) (b5 : List Int) (b6 : List Int) (b7 : List Int) (b8 : List Int) (b9 : List Int) (b10 : List Int) => _ : MapT → Int → Int → Int → Int → List Int → List Int → List Int → List Int → List Int → List Int → Option R) = F
  refine loop_det (fun q j s => impl_mirrorMap_l0 k F q m.2.2.1 (m.2.2.1.length : Int) (j : Int) m 0 0 m.2.1 m.1 [] [] [] s [] []) m.2.2.1.length (turnT m) _ ?_ ?_ k 0 (Nat.zero_le _) (by omega)
  · intro q j hj
    have hb := (mirIx_box hm (i := (j : Int)) (by omega) [] [] []).1
    show impl_mirrorMap_l0 k F (q + 1) m.2.2.1 _ (j : Int) m 0 0 m.2.1 m.1 [] [] [] (turnT m j) [] [] = impl_mirrorMap_l0 k F q m.2.2.1 _ ((j + 1 : Nat) : Int) m 0 0 m.2.1 m.1 [] [] [] (turnT m (j + 1)) [] []
    rw [impl_mirrorMap_l0, dlt, d0, decide_eq_true hj, wsucc (by omega), turnT_len, iIndex_eq hm (by omega), decide_eq_true hb.1, decide_eq_true (by omega : mirIx m (j : Int) < (m.2.2.1.length : Int)), toNatC, turnT_succ]
    rfl
  · intro q
    show impl_mirrorMap_l0 k F (q + 1) m.2.2.1 (m.2.2.1.length : Int) (m.2.2.1.length : Int) m 0 0 m.2.1 m.1 [] [] [] (turnT m m.2.2.1.length) [] [] = _
    rw [impl_mirrorMap_l0, dlt, decide_eq_false (by omega), cond_false, ← hF]
    show impl_mirrorMap_1 k m.2.2.2.1 (turnM m (turnT m m.2.2.1.length) [] []) m _ = _
    rw [iEdges_eq hm hk he.1]
    show impl_mirrorMap_1 k m.2.2.2.2 (turnM m (turnT m m.2.2.1.length) [] []) m _ = _
    rw [iEdges_eq hm hk he.2]
    rfl
theorem mirM_small : small (mirM m) ∧ (mirM m).2.2.1.length ≤ 100 ∧ (mirM m).2.2.2.1.length ≤ 300 ∧ (mirM m).2.2.2.2.length ≤ 300 := by
  have hm := good_dim hg
  have ha := area_le hm
  have hlen := ter_len hg
  have he : edgesB m m.2.2.2.1 = true ∧ edgesB m m.2.2.2.2 = true := by
    unfold good at hg
    simp only [Bool.and_eq_true] at hg
    exact hg.2.2.2.2
  have h1 := okQ_len (mirL_ok hm he.1)
  have h2 := okQ_len (mirL_ok hm he.2)
  have h3 := turnT_len m m.2.2.1.length
  have e1 : (mirM m).2.2.1.length = (turnT m m.2.2.1.length).length := rfl
  have e2 : (mirM m).2.2.2.1.length = (m.2.2.2.1.map (mirE m)).length := sortI_len _
  have e3 : (mirM m).2.2.2.2.length = (m.2.2.2.2.map (mirE m)).length := sortI_len _
  unfold small
  omega
end
end
end Go.Lg
/- The mirrored board: the law. -/
set_option linter.unusedSimpArgs false
set_option linter.unusedVariables false
namespace Go.Lg
open Go Go.Ev
section
variable {R α σ ι : Type}
theorem heldTerrainS_k {k : Nat} (hk : 21 < k) (a : List TerT) (k0 : Int) (h0 : 0 ≤ k0) (hc : k0 + cS cT a ≤ 4000000000000000) (hl : a.length < k) (hb : a.length ≤ 137438953472) (hx : ∀ x ∈ a, x.2.1.length < k ∧ x.2.1.length ≤ 137438953472) (K : Int → Option R) : laws_heldTerrainS k (fS fT cT k0 a) k0 K = K (k0 + (cS cT a : Int)) := by
  unfold laws_heldTerrainS
  have hlf := fS_len fT cT k0 a
  generalize hA : fS fT cT k0 a = A at *
  refine loop_held fT cT A (fun m k1 i => laws_heldTerrainS_l0 k (fun x => K x) (fun x => K x) m A k1 (i : Int)) (fun k1 => K k1) (fun x => x.2.1.length < k ∧ x.2.1.length ≤ 137438953472) (by omega) ?_ ?_ k [] a k0 (by rw [← hA]; rfl) hx (by omega) (by omega) hl
  · intro m k1 x pre r hx h0 h1 e
    have hlen : A.length = pre.length + (fT k1 x :: r).length := by rw [e]; exact List.length_append
    have hpos : pre.length < A.length := by rw [hlen]; simp
    show laws_heldTerrainS_l0 k _ _ (m + 1) A k1 (pre.length : Int) = laws_heldTerrainS_l0 k _ _ m A (k1 + (cT x : Nat)) ((pre.length + 1 : Nat) : Int)
    have eg : ∀ d, List.getD A pre.length d = fT k1 x := fun d => by rw [e]; exact getD_at rfl
    unfold cT at h1 ⊢
    push_cast at h1
    rw [laws_heldTerrainS_l0, dlt, d0, decide_eq_true hpos, toNatC, eg, wsucc (by omega), markText_eq hk k1 h0 (by omega)]
    have f1 : (fT k1 x).1 = txtM k1 := rfl
    have f2 : (fT k1 x).2.1 = mI (k1 + 1) x.2.1.length := rfl
    have f3 : (fT k1 x).2.2.1 = k1 + 1 + (x.2.1.length : Int) := rfl
    have f4 : (fT k1 x).2.2.2.1 = k1 + 1 + (x.2.1.length : Int) + 1 := by show k1 + 2 + (x.2.1.length : Int) = _; omega
    have f5 : (fT k1 x).2.2.2.2 = decide (Int.tmod (k1 + 1 + (x.2.1.length : Int) + 1 + 1) 3 = 0) := by
      rw [show k1 + 1 + (x.2.1.length : Int) + 1 + 1 = k1 + 3 + (x.2.1.length : Int) by omega]; rfl
    rw [f1, f2, f5, beq_self_eq_true, w64 (n := k1 + 1) (by omega), heldIntS_k (k1 + 1) x.2.1.length ⟨by omega, by omega⟩ hx.1 hx.2, decide_eq_false (by omega), decide_eq_true f3, w64 (n := k1 + 1 + (x.2.1.length : Int) + 1) (by omega), decide_eq_true f4, w64 (n := k1 + 1 + (x.2.1.length : Int) + 1 + 1) (by omega), w64 (n := k1 + 1 + (x.2.1.length : Int) + 1 + 1 + 1) (by omega), beq_self_eq_true]
    rw [show k1 + 1 + (x.2.1.length : Int) + 1 + 1 + 1 = k1 + ((x.2.1.length + 4 : Nat) : Int) by omega]
    rfl
  · intro m k1
    show laws_heldTerrainS_l0 k _ _ (m + 1) A k1 (A.length : Int) = _
    rw [laws_heldTerrainS_l0, dlt, decide_eq_false (by omega)]; rfl
theorem heldKindS_k {k : Nat} (hk : 21 < k) (a : List KndT) (k0 : Int) (h0 : 0 ≤ k0) (hc : k0 + cS cK a ≤ 4000000000000000) (hl : a.length < k) (hb : a.length ≤ 137438953472) (K : Int → Option R) : laws_heldKindS k (fS fK cK k0 a) k0 K = K (k0 + (cS cK a : Int)) := by
  unfold laws_heldKindS
  have hlf := fS_len fK cK k0 a
  generalize hA : fS fK cK k0 a = A at *
  refine loop_held fK cK A (fun m k1 i => laws_heldKindS_l0 k (fun x => K x) (fun x => K x) m A k1 (i : Int)) (fun k1 => K k1) (fun x => True) (by omega) ?_ ?_ k [] a k0 (by rw [← hA]; rfl) (fun _ _ => trivial) (by omega) (by omega) hl
  · intro m k1 x pre r hx h0 h1 e
    have hlen : A.length = pre.length + (fK k1 x :: r).length := by rw [e]; exact List.length_append
    have hpos : pre.length < A.length := by rw [hlen]; simp
    show laws_heldKindS_l0 k _ _ (m + 1) A k1 (pre.length : Int) = laws_heldKindS_l0 k _ _ m A (k1 + (cK x : Nat)) ((pre.length + 1 : Nat) : Int)
    have eg : ∀ d, List.getD A pre.length d = fK k1 x := fun d => by rw [e]; exact getD_at rfl
    unfold cK at h1 ⊢
    push_cast at h1
    rw [laws_heldKindS_l0, dlt, d0, decide_eq_true hpos, toNatC, eg, wsucc (by omega), markText_eq hk k1 h0 (by omega)]
    have f1 : (fK k1 x).1 = txtM k1 := rfl
    have f2 : (fK k1 x).2.1 = k1 + 1 := rfl
    have f3 : (fK k1 x).2.2.1 = k1 + 1 + 1 := by show k1 + 2 = _; omega
    have f4 : (fK k1 x).2.2.2.1 = k1 + 1 + 1 + 1 := by show k1 + 3 = _; omega
    have f5 : (fK k1 x).2.2.2.2.1 = decide (Int.tmod (k1 + 1 + 1 + 1 + 1) 3 = 0) := by
      rw [show k1 + 1 + 1 + 1 + 1 = k1 + 4 by omega]; rfl
    have f6 : (fK k1 x).2.2.2.2.2 = k1 + 1 + 1 + 1 + 1 + 1 := by show k1 + 5 = _; omega
    rw [f1, f5, beq_self_eq_true, w64 (n := k1 + 1) (by omega), decide_eq_true f2, w64 (n := k1 + 1 + 1) (by omega), decide_eq_true f3, w64 (n := k1 + 1 + 1 + 1) (by omega), decide_eq_true f4, w64 (n := k1 + 1 + 1 + 1 + 1) (by omega), beq_self_eq_true, w64 (n := k1 + 1 + 1 + 1 + 1 + 1) (by omega), decide_eq_true f6, w64 (n := k1 + 1 + 1 + 1 + 1 + 1 + 1) (by omega)]
    rw [show k1 + 1 + 1 + 1 + 1 + 1 + 1 = k1 + ((6 : Nat) : Int) by omega]
    rfl
  · intro m k1
    show laws_heldKindS_l0 k _ _ (m + 1) A k1 (A.length : Int) = _
    rw [laws_heldKindS_l0, dlt, decide_eq_false (by omega)]; rfl
theorem heldRules_k {r : RulT} (hs : smallR r) (k0 : Int) (h0 : 0 ≤ k0) (hB : k0 ≤ 1000000000000000) (K : Int → Option R) : laws_heldRules 4194304 (markR k0 r) k0 K = K (k0 + cR r) := by
  obtain ⟨s1, s2, s3, s4⟩ := hs
  have h1 := cS_small cT r.1 s1 (fun x hx => by have := (s3 x hx).2; unfold cT; omega)
  have h2 := cS_small cK r.2.1 s2 (fun x hx => by unfold cK; omega)
  unfold laws_heldRules markR
  simp only []
  rw [heldTerrainS_k (by omega) _ _ h0 (by omega) (by omega) (by omega) (fun x hx => by have := (s3 x hx).2; omega), decide_eq_false (by omega), cond_false, heldKindS_k (by omega) _ _ (by omega) (by omega) (by omega) (by omega), decide_eq_false (by omega), cond_false]
  unfold cR
  rw [show k0 + (cS cT r.1 : Int) + (cS cK r.2.1 : Int) = k0 + ((cS cT r.1 : Int) + cS cK r.2.1) by omega]
theorem heldMap_kk {m : MapT} (hs : small m) (k0 : Int) (h0 : 0 ≤ k0) (hB : k0 ≤ 2000000000000000) (K : Int → Option R) : laws_heldMap 4194304 (markM k0 m) k0 K = K (k0 + cM m) := by
  obtain ⟨s1, s2, s3⟩ := hs
  unfold laws_heldMap markM
  simp only []
  rw [heldIntS_k _ _ ⟨by omega, by omega⟩ (by omega) (by omega), decide_eq_false (by omega), cond_false, heldIntS_k _ _ ⟨by omega, by omega⟩ (by omega) (by omega), decide_eq_false (by omega), cond_false, heldIntS_k _ _ ⟨by omega, by omega⟩ (by omega) (by omega), decide_eq_false (by omega), cond_false]
  unfold cM
  rw [show k0 + (m.2.2.1.length : Int) + (m.2.2.2.1.length : Int) + (m.2.2.2.2.length : Int) = k0 + ((m.2.2.1.length : Int) + m.2.2.2.1.length + m.2.2.2.2.length) by omega]
theorem heldBoard_k {b : BrdT} (hs : smallB b) (K : Int → Option R) : laws_heldBoard 4194304 (markB 1 b) 1 K = K (1 + cB b) := by
  have h1 := cR_le hs.1
  have h2 := cM_le hs.2
  unfold laws_heldBoard markB
  simp only []
  rw [heldRules_k hs.1 1 (by omega) (by omega), decide_eq_false (by omega), cond_false, heldMap_kk hs.2 _ (by omega) (by omega), decide_eq_false (by omega), cond_false]
  unfold cB
  rw [show 1 + cR b.1 + cM b.2 = 1 + (cR b.1 + cM b.2) by omega]
/-! ### copies -/
theorem rOwn_eq {r : RulT} (hs : smallR r) {k : Nat} (hk : 1048576 < k) (K : RulT → Option R) : spec_rOwn k r K = K r := by
  obtain ⟨s1, s2, s3, s4⟩ := hs
  unfold spec_rOwn
  generalize hF : (fun (r2 : RulT) (x7 : Int) (x8 : Int) (x9 : Int) (x10 : Int) (x11 : Int) (out5 : List KndT) (out6 : Int) (out7 : Int) (out8 : Int) (out9 : Int) (out10 : Int) (b2 : List TerT) (b3 : List KndT) (b4 : List TerT) => _ : RulT → Int → Int → Int → Int → Int → List KndT → Int → Int → Int → Int → Int → List TerT → List KndT → List TerT → Option R) = F
  have e0 : ([] : List TerT) = r.1.take 0 := by simp
  conv => lhs; arg 21; rw [e0]
  refine loop_det (fun q j s => spec_rOwn_l0 k F q r.1 (r.1.length : Int) (j : Int) r 0 0 0 0 0 r.2.1 r.2.2.1 r.2.2.2.1 r.2.2.2.2.1 r.2.2.2.2.2.1 r.2.2.2.2.2.2 [] [] s) r.1.length (fun j => r.1.take j) _ ?_ ?_ k 0 (Nat.zero_le _) (by omega)
  · intro q j hj
    have h1 := s3 _ (List.getElem_mem hj)
    show spec_rOwn_l0 k F (q + 1) r.1 _ (j : Int) r 0 0 0 0 0 r.2.1 r.2.2.1 r.2.2.2.1 r.2.2.2.2.1 r.2.2.2.2.2.1 r.2.2.2.2.2.2 [] [] (r.1.take j) = spec_rOwn_l0 k F q r.1 _ ((j + 1 : Nat) : Int) r 0 0 0 0 0 r.2.1 r.2.2.1 r.2.2.2.1 r.2.2.2.2.1 r.2.2.2.2.2.1 r.2.2.2.2.2.2 [] [] (r.1.take (j + 1))
    rw [spec_rOwn_l0, dlt, d0, decide_eq_true hj, toNatC, getD_lt hj, wsucc (by omega)]
    unfold spec_l1Own
    rw [decide_eq_true (p := 0 + r.1[j].2.1.length ≤ maxGrow) (by unfold maxGrow; omega), List.nil_append]
    dsimp only
    rw [decide_eq_true (p := (r.1.take j).length + [(r.1[j].1, (r.1[j].2.1, r.1[j].2.2))].length ≤ maxGrow) (by unfold maxGrow; simp; omega), List.take_succ_eq_append_getElem hj]
    rfl
  · intro q
    show spec_rOwn_l0 k F (q + 1) r.1 (r.1.length : Int) (r.1.length : Int) r 0 0 0 0 0 r.2.1 r.2.2.1 r.2.2.2.1 r.2.2.2.2.1 r.2.2.2.2.2.1 r.2.2.2.2.2.2 [] [] (r.1.take r.1.length) = _
    rw [spec_rOwn_l0, dlt, decide_eq_false (by omega), cond_false, ← hF, List.take_length]
    show (bif decide (0 + r.2.1.length ≤ maxGrow) then K (r.1, ([] ++ r.2.1, _)) else none) = _
    rw [decide_eq_true (by unfold maxGrow; omega), List.nil_append]; rfl
theorem cloneRules_eq {r : RulT} (hs : smallR r) (h2 : 1 ≤ r.2.1.length) (hc : ∀ t ∈ r.1, 1 ≤ t.2.1.length) {k : Nat} (hk : 1048576 < k) (K : RulT → Option R) : impl_cloneRules k r K = K r := by
  obtain ⟨s1, s2, s3, s4⟩ := hs
  unfold impl_cloneRules
  generalize hF : (fun (r2 : RulT) (x7 : Int) (x8 : Int) (x9 : Int) (x10 : Int) (x11 : Int) (terrains0 : List TerT) (b1 : List TerT) (b2 : List KndT) => _ : RulT → Int → Int → Int → Int → Int → List TerT → List TerT → List KndT → Option R) = F
  refine loop_det (fun q j s => impl_cloneRules_l0 k F q r.1 (r.1.length : Int) (j : Int) r 0 0 0 0 0 s [] []) r.1.length (fun j => r.1.take j) _ ?_ ?_ k 0 (Nat.zero_le _) (by omega)
  · intro q j hj
    have h1 := s3 _ (List.getElem_mem hj)
    have h3 := hc _ (List.getElem_mem hj)
    show impl_cloneRules_l0 k F (q + 1) r.1 _ (j : Int) r 0 0 0 0 0 (r.1.take j) [] [] = impl_cloneRules_l0 k F q r.1 _ ((j + 1 : Nat) : Int) r 0 0 0 0 0 (r.1.take (j + 1)) [] []
    rw [impl_cloneRules_l0, dlt, d0, decide_eq_true hj, toNatC, getD_lt hj, wsucc (by omega)]
    unfold slices_Clone_Sint_int
    have hne : List.isEmpty r.1[j].2.1 = false := by
      cases h : r.1[j].2.1 with
      | nil => rw [h] at h3; simp at h3
      | cons a l => rfl
    rw [hne, decide_eq_true (p := 0 + r.1[j].2.1.length ≤ maxGrow) (by unfold maxGrow; omega), List.nil_append]
    dsimp only
    rw [decide_eq_true (p := (r.1.take j).length + [(r.1[j].1, (r.1[j].2.1, r.1[j].2.2))].length ≤ maxGrow) (by unfold maxGrow; simp; omega), List.take_succ_eq_append_getElem hj]
    rfl
  · intro q
    show impl_cloneRules_l0 k F (q + 1) r.1 (r.1.length : Int) (r.1.length : Int) r 0 0 0 0 0 (r.1.take r.1.length) [] [] = _
    rw [impl_cloneRules_l0, dlt, decide_eq_false (by omega), cond_false, ← hF, List.take_length]
    have hne : List.isEmpty r.2.1 = false := by
      cases h : r.2.1 with
      | nil => rw [h] at h2; simp at h2
      | cons a l => rfl
    show slices_Clone_Simpl_Kind_impl_Kind r.2.1 _ = _
    unfold slices_Clone_Simpl_Kind_impl_Kind
    rw [hne, decide_eq_true (p := 0 + r.2.1.length ≤ maxGrow) (by unfold maxGrow; omega), List.nil_append]
    rfl
theorem MirrorBoard_same {b : BrdT} (hs : smallB b) : ∃ (v : BrdT) (c : Bool), smallB v ∧ (∀ {R : Type} (K : BrdT → Bool → Option R), spec_MirrorBoard 4194304 b K = K v c) ∧ ∀ {R : Type} (K : BrdT → Bool → Option R), impl_MirrorBoard 4194304 b K = K v c := by
  cases hg : goodB b
  · exact ⟨(([], ([], (0, (0, (0, (0, 0)))))), (0, (0, ([], ([], []))))), false, ⟨⟨by simp, by simp, by simp, by simp⟩, by unfold small; simp⟩, fun K => by unfold spec_MirrorBoard; rw [bGood_eq hs, hg]; rfl, fun K => by unfold impl_MirrorBoard; rw [IsBoard_eq hs, hg]; rfl⟩
  · have hgm := (good_brd hg).2.1
    obtain ⟨⟨_, _⟩, ⟨h2, _⟩, h3, _⟩ := good_rul (good_brd hg).1
    have hc : ∀ t ∈ b.1.1, 1 ≤ t.2.1.length := by
      intro t ht
      obtain ⟨i, hi, rfl⟩ := List.getElem_of_mem ht
      have := h3 i hi
      rw [getD_lt hi] at this
      unfold terB at this
      simp only [Bool.and_eq_true, decide_eq_true_eq] at this
      omega
    exact ⟨(b.1, mirM b.2), true, ⟨hs.1, (mirM_small hgm).1⟩, fun K => by unfold spec_MirrorBoard; rw [bGood_eq hs, hg, Bool.not_true, cond_false, rOwn_eq hs.1 (by omega), mMirror_eq hgm (by omega)],
      fun K => by unfold impl_MirrorBoard; rw [IsBoard_eq hs, hg, Bool.not_true, cond_false, cloneRules_eq hs.1 h2 hc (by omega), mirrorMap_eq hgm (by omega)]⟩
theorem law_FnExactMirrorBoard (b : BrdT) (w : Wf BrdTy b) (K : Bool → Option R) : laws_FnExactMirrorBoard 4194304 b K = K true := by
  unfold laws_FnExactMirrorBoard
  obtain ⟨r, e0, h⟩ := szBoard_ret w
  rw [e0]
  rcases h with rfl | ⟨hl, hs⟩
  · rfl
  · obtain ⟨v, c, hv, e1, e2⟩ := MirrorBoard_same hs
    have hc := cB_le hs
    have hd := cB_le hv
    have hh : ∀ {R : Type} (K : Int → Option R), laws_heldBoard 4194304 (((markB 1 v).1.1, ((markB 1 v).1.2.1, v.1.2.2)), (v.2.1, (v.2.2.1, (markB 1 v).2.2.2))) 1 K = K (1 + cB v) := fun K => heldBoard_k hv K
    rw [decide_eq_false (by have := hl.1; omega), cond_false, toBrd_eq hs, e1, toBrd_eq hs, e2, eqBrd_self hv, toBrd_eq hs, eqBrd_self hs, markBoard_eq hs, decide_eq_false (by omega : ¬ (1 + cB b < 0)), eqBrd_self hv, markBoard_eq hv, hh, decide_eq_false (by omega), decide_eq_true rfl, toBrd_eq hs, e2, eqBrd_self hv, hh, decide_eq_false (by omega), decide_eq_true rfl]
    simp
end
end Go.Lg
