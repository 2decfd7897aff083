/- Rules: what the functions answer; their laws. -/
import Derived.Test.YtbfbeaghmlkjkaaGreatDoorLg1
set_option linter.unusedVariables false
set_option linter.unusedSimpArgs false
set_option linter.unusedSectionVars false
set_option linter.unusedSimpArgs false
set_option linter.unusedVariables false
namespace Go.Lg
open Go Go.Ev
section
variable {R α : Type}
abbrev TerT := ByteArray × (List Int) × Int × Int × Bool
abbrev KndT := ByteArray × Int × Int × Int × Bool × Int
abbrev RulT := (List TerT) × (List KndT) × Int × Int × Int × Int × Int
abbrev TerTy : Ty := .st (.pair .str (.pair (.sl (.int .i64)) (.pair (.int .i64) (.pair (.int .i64) .bool))))
abbrev KndTy : Ty := .st (.pair .str (.pair (.int .i64) (.pair (.int .i64) (.pair (.int .i64) (.pair .bool (.int .i64))))))
abbrev RulTy : Ty := .st (.pair (.sl TerTy) (.pair (.sl KndTy) (.pair (.int .i64) (.pair (.int .i64) (.pair (.int .i64) (.pair (.int .i64) (.int .i64)))))))
theorem wfStr {s : ByteArray} (w : Wf .str s) : s.size ≤ 9223372036854775807 := by
  have : maxLen = 9223372036854775807 := by decide
  have h : s.size ≤ maxLen := w
  omega
def wideR (r : RulT) : Prop := r.1.length ≤ 9223372036854775807 ∧ r.2.1.length ≤ 9223372036854775807 ∧ (∀ t ∈ r.1, t.1.size ≤ 9223372036854775807 ∧ t.2.1.length ≤ 9223372036854775807) ∧ ∀ t ∈ r.2.1, t.1.size ≤ 9223372036854775807
theorem wfRul {r : RulT} (w : Wf RulTy r) : wideR r := by
  obtain ⟨w1, w2, _⟩ := w
  refine ⟨(wfSl w1).1, (wfSl w2).1, fun t ht => ?_, fun t ht => ?_⟩
  · obtain ⟨g1, g2, _⟩ := (wfSl w1).2 t ht
    exact ⟨wfStr g1, (wfSl g2).1⟩
  · obtain ⟨g1, _⟩ := (wfSl w2).2 t ht
    exact wfStr g1
def smallR (r : RulT) : Prop := r.1.length ≤ 1048576 ∧ r.2.1.length ≤ 1048576 ∧ (∀ t ∈ r.1, t.1.size ≤ 1048576 ∧ t.2.1.length ≤ 1048576) ∧ ∀ t ∈ r.2.1, t.1.size ≤ 1048576
/-! ### sizes -/
def szTe (t : TerT) (left : Int) : Int := if szI t.1.size left < 0 then -1 else szI t.2.1.length (szI t.1.size left)
theorem szTe_b (t : TerT) (left : Int) (hl : inL left) : szTe t left ≤ left ∧ -1 ≤ szTe t left := by
  unfold szTe
  have h1 := szI_b t.1.size left hl
  have h0 := hl.1
  have h2 := hl.2
  split
  · omega
  · have := szI_b t.2.1.length (szI t.1.size left) ⟨by omega, by omega⟩
    omega
theorem szTe_ok (t : TerT) (left : Int) (hl : inL left) : szTe t left = -1 ∨ (0 ≤ szTe t left ∧ szTe t left ≤ left ∧ t.1.size ≤ 1048576 ∧ t.2.1.length ≤ 1048576) := by
  unfold szTe
  have h0 := hl.2
  rcases szI_cases t.1.size left hl.1 with h1 | ⟨h1, h2, h3⟩
  · left; rw [if_pos (by omega)]
  · rw [if_neg (by omega)]
    rcases szI_cases t.2.1.length (szI t.1.size left) h1 with g1 | ⟨g1, g2, g3⟩
    · exact .inl g1
    · exact .inr ⟨g1, by omega, by omega, by omega⟩
theorem szTerrain_eq (t : TerT) (left : Int) (hl : inL left) (w1 : t.1.size ≤ 9223372036854775807) (w2 : t.2.1.length ≤ 9223372036854775807) (K : Int → Option R) : laws_szTerrain t left K = K (szTe t left) := by
  have hl' := hl
  unfold inL at hl'
  unfold laws_szTerrain szTe szI
  rw [w64 (by omega)]
  by_cases h : (t.1.size : Int) ≤ left
  · rw [decide_eq_false (by omega), if_pos h, if_neg (by omega), cond_false, szIntS_eq _ _ ⟨by omega, by omega⟩ w2]
    unfold szI
    by_cases h2 : (t.2.1.length : Int) ≤ left - t.1.size
    · rw [if_pos h2, decide_eq_false (by omega)]; rfl
    · rw [if_neg h2]; rfl
  · rw [decide_eq_true (by omega), if_neg h]; rfl
theorem szTerrainS_eq {k : Nat} (hk : 1048576 < k) (a : List TerT) (left : Int) (hl : inL left) (ha : a.length ≤ 9223372036854775807) (hb : ∀ t ∈ a, t.1.size ≤ 9223372036854775807 ∧ t.2.1.length ≤ 9223372036854775807) (K : Int → Option R) : laws_szTerrainS k a left K = K (szS szTe a left) := by
  refine szS_eq hk szTe a ha (fun K => laws_szTerrainS k a left K) (fun m a left i => laws_szTerrainS_l0 k (fun x => K x) (fun x => K x) m a left i) K left hl rfl ?_ ?_ (fun y _ left hl => szTe_b _ _ hl)
  · intro m i left h hs hl
    show laws_szTerrainS_l0 k _ _ (m + 1) a left (i : Int) = bif decide (szTe a[i] left < 0) then K (-1) else laws_szTerrainS_l0 k _ _ m a (szTe a[i] left) ((i + 1 : Nat) : Int)
    have := hb _ (List.getElem_mem h)
    rw [laws_szTerrainS_l0, dlt, d0, decide_eq_true h, toNatC, getD_lt h, wsucc (by omega), szTerrain_eq _ _ hl this.1 this.2]
    rfl
  · intro m left
    show laws_szTerrainS_l0 k _ _ (m + 1) a left (a.length : Int) = K left
    rw [laws_szTerrainS_l0, dlt, decide_eq_false (by omega)]; rfl
def szKn (t : KndT) (left : Int) : Int := szI t.1.size left
theorem szKindS_eq {k : Nat} (hk : 1048576 < k) (a : List KndT) (left : Int) (hl : inL left) (ha : a.length ≤ 9223372036854775807) (hb : ∀ t ∈ a, t.1.size ≤ 9223372036854775807) (K : Int → Option R) : laws_szKindS k a left K = K (szS szKn a left) := by
  refine szS_eq hk szKn a ha (fun K => laws_szKindS k a left K) (fun m a left i => laws_szKindS_l0 k (fun x => K x) (fun x => K x) m a left i) K left hl rfl ?_ ?_ (fun y _ left hl => szI_b _ _ hl)
  · intro m i left h hs hl
    show laws_szKindS_l0 k _ _ (m + 1) a left (i : Int) = bif decide (szKn a[i] left < 0) then K (-1) else laws_szKindS_l0 k _ _ m a (szKn a[i] left) ((i + 1 : Nat) : Int)
    have := hb _ (List.getElem_mem h)
    have h0 := hl.1
    have h1 := hl.2
    rw [laws_szKindS_l0, dlt, d0, decide_eq_true h, toNatC, getD_lt h, wsucc (by omega)]
    unfold laws_szKind szKn szI
    rw [w64 (by omega)]
    by_cases hz : (a[i].1.size : Int) ≤ left
    · rw [decide_eq_false (by omega), if_pos hz]; rfl
    · rw [decide_eq_true (by omega), if_neg hz]; rfl
  · intro m left
    show laws_szKindS_l0 k _ _ (m + 1) a left (a.length : Int) = K left
    rw [laws_szKindS_l0, dlt, decide_eq_false (by omega)]; rfl
def szR (r : RulT) (left : Int) : Int := if szS szTe r.1 left < 0 then -1 else szS szKn r.2.1 (szS szTe r.1 left)
theorem szR_eq {k : Nat} (hk : 1048576 < k) {r : RulT} (w : wideR r) (left : Int) (hl : inL left) (K : Int → Option R) : laws_szRules k r left K = K (szR r left) := by
  obtain ⟨w1, w2, w3, w4⟩ := w
  unfold laws_szRules szR
  rw [szTerrainS_eq hk _ _ hl w1 w3]
  have h0 := hl.2
  have hb1 := szS_b szTe r.1 (fun y _ left hl => szTe_b _ _ hl) left hl
  by_cases h : szS szTe r.1 left < 0
  · rw [decide_eq_true h, if_pos h]; rfl
  · have hl2 : inL (szS szTe r.1 left) := ⟨by omega, by omega⟩
    have hb2 := szS_b szKn r.2.1 (fun y _ left hl => szI_b _ _ hl) _ hl2
    rw [decide_eq_false h, if_neg h, cond_false, szKindS_eq hk _ _ hl2 w2 w4]
    by_cases hn : szS szKn r.2.1 (szS szTe r.1 left) < 0
    · rw [decide_eq_true hn, show szS szKn r.2.1 (szS szTe r.1 left) = -1 by omega]; rfl
    · rw [decide_eq_false hn]; rfl
theorem szR_ok (r : RulT) (left : Int) (hl : inL left) : szR r left = -1 ∨ (0 ≤ szR r left ∧ szR r left ≤ left ∧ smallR r) := by
  unfold szR
  have h0 := hl.2
  rcases szS_ok szTe _ r.1 (fun y _ left hl => szTe_ok y left hl) left hl with h1 | ⟨h1, h2, h3, h4⟩
  · left; rw [if_pos (by omega)]
  · rw [if_neg (by omega)]
    rcases szS_ok szKn (fun t => t.1.size ≤ 1048576) r.2.1 (fun y _ left hl => by
      rcases szI_cases y.1.size left hl.1 with g | ⟨g1, g2, g3⟩
      · exact .inl g
      · exact .inr ⟨g1, g2, by have := hl.2; omega⟩) (szS szTe r.1 left) ⟨h1, by omega⟩ with g1 | ⟨g1, g2, g3, g4⟩
    · exact .inl g1
    · exact .inr ⟨g1, by omega, h3, g3, h4, g4⟩
/-! ### copies, equality -/
theorem toTerrainS_eq {k : Nat} (a : List TerT) (h : a.length < k) (hb : a.length ≤ 137438953472) (hr : ∀ t ∈ a, t.2.1.length < k ∧ t.2.1.length ≤ 137438953472) (K : List TerT → Option R) : laws_toTerrainS k a K = K a := by
  refine toS_eq a ((⟨#[]⟩ : ByteArray), ([], ((0 : Int), ((0 : Int), false)))) h hb (fun K => laws_toTerrainS k a K) (fun m a i out => laws_toTerrainS_l0 k (fun x => K x) m a i out) K rfl ?_ ?_
  · intro m i out hi ho
    show laws_toTerrainS_l0 k _ (m + 1) a (i : Int) out = laws_toTerrainS_l0 k _ m a ((i + 1 : Nat) : Int) _
    have := hr _ (List.getElem_mem hi)
    rw [laws_toTerrainS_l0, dlt, d0, dlt, decide_eq_true hi, decide_eq_true (by omega : i < out.length), toNatC, getD_lt hi, wsucc (by omega)]
    unfold laws_toTerrain
    rw [toIntS_eq _ this.1 this.2]
    rfl
  · intro m out
    show laws_toTerrainS_l0 k _ (m + 1) a (a.length : Int) out = K out
    rw [laws_toTerrainS_l0, dlt, decide_eq_false (by omega)]; rfl
theorem toKindS_eq {k : Nat} (a : List KndT) (h : a.length < k) (hb : a.length ≤ 137438953472) (K : List KndT → Option R) : laws_toKindS k a K = K a := by
  refine toS_eq a ((⟨#[]⟩ : ByteArray), ((0 : Int), ((0 : Int), ((0 : Int), (false, (0 : Int)))))) h hb (fun K => laws_toKindS k a K) (fun m a i out => laws_toKindS_l0 k (fun x => K x) m a i out) K rfl ?_ ?_
  · intro m i out hi ho
    show laws_toKindS_l0 k _ (m + 1) a (i : Int) out = laws_toKindS_l0 k _ m a ((i + 1 : Nat) : Int) _
    rw [laws_toKindS_l0, dlt, d0, dlt, decide_eq_true hi, decide_eq_true (by omega : i < out.length), toNatC, getD_lt hi, wsucc (by omega)]
    rfl
  · intro m out
    show laws_toKindS_l0 k _ (m + 1) a (a.length : Int) out = K out
    rw [laws_toKindS_l0, dlt, decide_eq_false (by omega)]; rfl
theorem toRul_eq {r : RulT} (hs : smallR r) (K : RulT → Option R) : laws_toRules 4194304 r K = K r := by
  obtain ⟨s1, s2, s3, s4⟩ := hs
  unfold laws_toRules
  rw [toTerrainS_eq _ (by omega) (by omega) (fun t ht => by have := s3 t ht; omega), toKindS_eq _ (by omega) (by omega)]
theorem eqTerrain_self {k : Nat} (t : TerT) (h : t.2.1.length < k) (hb : t.2.1.length ≤ 137438953472) (K : Bool → Option R) : laws_eqTerrain k t t K = K true := by
  unfold laws_eqTerrain
  rw [beq_self_eq_true, eqIntS_self _ h hb, decide_eq_true rfl, decide_eq_true rfl, beq_self_eq_true]; rfl
theorem eqTerrainS_self {k : Nat} (a : List TerT) (h : a.length < k) (hb : a.length ≤ 137438953472) (hr : ∀ t ∈ a, t.2.1.length < k ∧ t.2.1.length ≤ 137438953472) (K : Bool → Option R) : laws_eqTerrainS k a a K = K true := by
  refine eqS_self a h (fun K => laws_eqTerrainS k a a K) (fun m a b i => laws_eqTerrainS_l0 k (K true) (fun x => K x) m a b i) K rfl ?_ ?_
  · intro m i hi
    show laws_eqTerrainS_l0 k _ _ (m + 1) a a (i : Int) = laws_eqTerrainS_l0 k _ _ m a a ((i + 1 : Nat) : Int)
    have := hr _ (List.getElem_mem hi)
    rw [laws_eqTerrainS_l0, dlt, d0, decide_eq_true hi, wsucc (by omega), toNatC, getD_lt hi, eqTerrain_self _ this.1 this.2]
    rfl
  · intro m
    show laws_eqTerrainS_l0 k _ _ (m + 1) a a (a.length : Int) = K true
    rw [laws_eqTerrainS_l0, dlt, decide_eq_false (by omega)]; rfl
theorem eqKind_self (t : KndT) (K : Bool → Option R) : laws_eqKind t t K = K true := by
  unfold laws_eqKind
  rw [beq_self_eq_true, decide_eq_true rfl, decide_eq_true rfl, decide_eq_true rfl, beq_self_eq_true, decide_eq_true rfl]; rfl
theorem eqKindS_self {k : Nat} (a : List KndT) (h : a.length < k) (hb : a.length ≤ 137438953472) (K : Bool → Option R) : laws_eqKindS k a a K = K true := by
  refine eqS_self a h (fun K => laws_eqKindS k a a K) (fun m a b i => laws_eqKindS_l0 k (K true) (fun x => K x) m a b i) K rfl ?_ ?_
  · intro m i hi
    show laws_eqKindS_l0 k _ _ (m + 1) a a (i : Int) = laws_eqKindS_l0 k _ _ m a a ((i + 1 : Nat) : Int)
    rw [laws_eqKindS_l0, dlt, d0, decide_eq_true hi, wsucc (by omega), toNatC, getD_lt hi, eqKind_self]
    rfl
  · intro m
    show laws_eqKindS_l0 k _ _ (m + 1) a a (a.length : Int) = K true
    rw [laws_eqKindS_l0, dlt, decide_eq_false (by omega)]; rfl
theorem eqRul_self {r : RulT} (hs : smallR r) (K : Bool → Option R) : laws_eqRules 4194304 r r K = K true := by
  obtain ⟨s1, s2, s3, s4⟩ := hs
  unfold laws_eqRules
  rw [eqTerrainS_self _ (by omega) (by omega) (fun t ht => by have := s3 t ht; omega), eqKindS_self _ (by omega) (by omega), decide_eq_true rfl, decide_eq_true rfl, decide_eq_true rfl, decide_eq_true rfl, decide_eq_true rfl]
  rfl
/-! ### names -/
def letB (s : ByteArray) (i : Nat) : Bool := !decide (byteAt s (i : Int) < 97) && !decide (122 < byteAt s (i : Int))
def nameB (s : ByteArray) : Bool := (List.range s.size).all (letB s) && inB (s.size : Int) 1 8
theorem rName_eq {k : Nat} (s : ByteArray) (h : s.size < k) (hb : s.size ≤ 137438953472) (K : Bool → Option R) : spec_rName k s K = K (nameB s) := by
  unfold spec_rName nameB
  have := loop_allN (fun m i => spec_rName_l0 k (fun s1 => spec_l1In ((s1.size : Nat) : Int) 1 8 fun r => K r) (fun x => K x) m s (i : Int)) s.size (letB s) (spec_l1In ((s.size : Nat) : Int) 1 8 fun r => K r) (K false) ?_ ?_ h
  · refine this.trans ?_
    rw [l1In_eq]
    cases (List.range s.size).all (letB s) <;> rfl
  · intro m i hi
    show spec_rName_l0 k _ _ (m + 1) s (i : Int) = bif _ then spec_rName_l0 k _ _ m s ((i + 1 : Nat) : Int) else _
    rw [spec_rName_l0, dlt, d0, decide_eq_true hi, wsucc (by omega)]
    unfold letB
    cases decide (byteAt s (i : Int) < 97)
    · cases decide (122 < byteAt s (i : Int)) <;> rfl
    · rfl
  · intro m
    show spec_rName_l0 k _ _ (m + 1) s (s.size : Int) = _
    rw [spec_rName_l0, dlt, decide_eq_false (by omega)]; rfl
theorem isName_eq {k : Nat} (s : ByteArray) (h : s.size < k) (hb : s.size ≤ 137438953472) (K : Bool → Option R) : impl_isName k s K = K (nameB s) := by
  unfold impl_isName nameB
  have := loop_allN (fun m i => impl_isName_l0 k (fun s1 => impl_inRange ((s1.size : Nat) : Int) 1 8 fun r => K r) (fun x => K x) m s (i : Int)) s.size (letB s) (impl_inRange ((s.size : Nat) : Int) 1 8 fun r => K r) (K false) ?_ ?_ h
  · refine this.trans ?_
    rw [inRange_eq]
    cases (List.range s.size).all (letB s) <;> rfl
  · intro m i hi
    show impl_isName_l0 k _ _ (m + 1) s (i : Int) = bif _ then impl_isName_l0 k _ _ m s ((i + 1 : Nat) : Int) else _
    rw [impl_isName_l0, dlt, d0, decide_eq_true hi, wsucc (by omega)]
    unfold letB
    cases decide (byteAt s (i : Int) < 97)
    · cases decide (122 < byteAt s (i : Int)) <;> rfl
    · rfl
  · intro m
    show impl_isName_l0 k _ _ (m + 1) s (s.size : Int) = _
    rw [impl_isName_l0, dlt, decide_eq_false (by omega)]; rfl
def isT (name : ByteArray) (t : TerT) : Bool := t.1.toList == name.toList
def isK (name : ByteArray) (t : KndT) : Bool := t.1.toList == name.toList
theorem rTerrain_eq {k : Nat} (l : List TerT) (name : ByteArray) (h : l.length < k) (hb : l.length ≤ 137438953472) (K : Int → Option R) : spec_rTerrain k l name K = K (findI (isT name) l) := by
  unfold spec_rTerrain
  refine loop_find (fun m i => spec_rTerrain_l0 k (K (-1)) (fun x => K x) m name l (l.length : Int) (i : Int)) l (isT name) K ?_ ?_ h
  · intro m i hi
    show spec_rTerrain_l0 k _ _ (m + 1) name l (l.length : Int) (i : Int) = bif _ then _ else spec_rTerrain_l0 k _ _ m name l (l.length : Int) ((i + 1 : Nat) : Int)
    rw [spec_rTerrain_l0, dlt, d0, decide_eq_true hi, wsucc (by omega), toNatC, getD_lt hi]
    rfl
  · intro m
    show spec_rTerrain_l0 k _ _ (m + 1) name l (l.length : Int) (l.length : Int) = _
    rw [spec_rTerrain_l0, dlt, decide_eq_false (by omega)]; rfl
theorem rKind_eq {k : Nat} (l : List KndT) (name : ByteArray) (h : l.length < k) (hb : l.length ≤ 137438953472) (K : Int → Option R) : spec_rKind k l name K = K (findI (isK name) l) := by
  unfold spec_rKind
  refine loop_find (fun m i => spec_rKind_l0 k (K (-1)) (fun x => K x) m name l (l.length : Int) (i : Int)) l (isK name) K ?_ ?_ h
  · intro m i hi
    show spec_rKind_l0 k _ _ (m + 1) name l (l.length : Int) (i : Int) = bif _ then _ else spec_rKind_l0 k _ _ m name l (l.length : Int) ((i + 1 : Nat) : Int)
    rw [spec_rKind_l0, dlt, d0, decide_eq_true hi, wsucc (by omega), toNatC, getD_lt hi]
    rfl
  · intro m
    show spec_rKind_l0 k _ _ (m + 1) name l (l.length : Int) (l.length : Int) = _
    rw [spec_rKind_l0, dlt, decide_eq_false (by omega)]; rfl
theorem terrainIndex_eq {k : Nat} (l : List TerT) (name : ByteArray) (h : l.length < k) (hb : l.length ≤ 137438953472) (K : Int → Option R) : impl_terrainIndex k l name K = K (findI (isT name) l) := by
  unfold impl_terrainIndex slices_IndexFunc_Simpl_Terrain_impl_Terrain__impl_terrainIndex_1
  refine loop_find (fun m i => slices_IndexFunc_Simpl_Terrain_impl_Terrain__impl_terrainIndex_1_l0 k (K (-1)) (fun x => K x) m l name (l.length : Int) (i : Int)) l (isT name) K ?_ ?_ h
  · intro m i hi
    show slices_IndexFunc_Simpl_Terrain_impl_Terrain__impl_terrainIndex_1_l0 k _ _ (m + 1) l name (l.length : Int) (i : Int) = bif _ then _ else slices_IndexFunc_Simpl_Terrain_impl_Terrain__impl_terrainIndex_1_l0 k _ _ m l name (l.length : Int) ((i + 1 : Nat) : Int)
    rw [slices_IndexFunc_Simpl_Terrain_impl_Terrain__impl_terrainIndex_1_l0, dlt, d0, decide_eq_true hi, wsucc (by omega), toNatC, getD_lt hi]
    rfl
  · intro m
    show slices_IndexFunc_Simpl_Terrain_impl_Terrain__impl_terrainIndex_1_l0 k _ _ (m + 1) l name (l.length : Int) (l.length : Int) = _
    rw [slices_IndexFunc_Simpl_Terrain_impl_Terrain__impl_terrainIndex_1_l0, dlt, decide_eq_false (by omega)]; rfl
theorem kindIndex_eq {k : Nat} (l : List KndT) (name : ByteArray) (h : l.length < k) (hb : l.length ≤ 137438953472) (K : Int → Option R) : impl_kindIndex k l name K = K (findI (isK name) l) := by
  unfold impl_kindIndex slices_IndexFunc_Simpl_Kind_impl_Kind__impl_kindIndex_1
  refine loop_find (fun m i => slices_IndexFunc_Simpl_Kind_impl_Kind__impl_kindIndex_1_l0 k (K (-1)) (fun x => K x) m l name (l.length : Int) (i : Int)) l (isK name) K ?_ ?_ h
  · intro m i hi
    show slices_IndexFunc_Simpl_Kind_impl_Kind__impl_kindIndex_1_l0 k _ _ (m + 1) l name (l.length : Int) (i : Int) = bif _ then _ else slices_IndexFunc_Simpl_Kind_impl_Kind__impl_kindIndex_1_l0 k _ _ m l name (l.length : Int) ((i + 1 : Nat) : Int)
    rw [slices_IndexFunc_Simpl_Kind_impl_Kind__impl_kindIndex_1_l0, dlt, d0, decide_eq_true hi, wsucc (by omega), toNatC, getD_lt hi]
    rfl
  · intro m
    show slices_IndexFunc_Simpl_Kind_impl_Kind__impl_kindIndex_1_l0 k _ _ (m + 1) l name (l.length : Int) (l.length : Int) = _
    rw [slices_IndexFunc_Simpl_Kind_impl_Kind__impl_kindIndex_1_l0, dlt, decide_eq_false (by omega)]; rfl
theorem notCost_eq {k : Nat} (l : List Int) (h : l.length < k) (hb : l.length ≤ 137438953472) (K : Bool → Option R) : slices_ContainsFunc_Sint_int__impl_goodTerrain_1 k l K = K (!l.all fun x => inB x 0 9) := by
  unfold slices_ContainsFunc_Sint_int__impl_goodTerrain_1 slices_IndexFunc_Sint_int__impl_goodTerrain_1
  have := loop_find (fun m i => slices_IndexFunc_Sint_int__impl_goodTerrain_1_l0 k (K (decide ((0 : Int) ≤ -1))) (fun x => K (decide (0 ≤ x))) m l (l.length : Int) (i : Int)) l (fun x => !inB x 0 9) (fun x => K (decide (0 ≤ x))) ?_ ?_ (m := k) h
  · refine this.trans ?_
    show K (decide (0 ≤ findI (fun x => !inB x 0 9) l)) = _
    rw [findI_ge]
    congr 1
    rw [List.all_eq_not_any_not]; simp
  · intro m i hi
    show slices_IndexFunc_Sint_int__impl_goodTerrain_1_l0 k _ _ (m + 1) l (l.length : Int) (i : Int) = bif _ then _ else slices_IndexFunc_Sint_int__impl_goodTerrain_1_l0 k _ _ m l (l.length : Int) ((i + 1 : Nat) : Int)
    rw [slices_IndexFunc_Sint_int__impl_goodTerrain_1_l0, dlt, d0, decide_eq_true hi, toNatC, wsucc (by omega), getD_lt hi]
    unfold impl_goodTerrain_1
    rw [inRange_eq]
    rfl
  · intro m
    show slices_IndexFunc_Sint_int__impl_goodTerrain_1_l0 k _ _ (m + 1) l (l.length : Int) (l.length : Int) = _
    rw [slices_IndexFunc_Sint_int__impl_goodTerrain_1_l0, dlt, decide_eq_false (by omega)]; rfl
/-! ### good rules -/
def terB (r : RulT) (i : Nat) (t : TerT) : Bool := nameB t.1 && (decide (findI (isT t.1) r.1 = (i : Int)) && (decide (t.2.1.length = r.2.1.length) && ((t.2.1.all fun x => inB x 0 9) && (inB t.2.2.1 (-3) 3 && inB t.2.2.2.1 0 3))))
def kndB (r : RulT) (i : Nat) (t : KndT) : Bool := nameB t.1 && (decide (findI (isK t.1) r.2.1 = (i : Int)) && (inB t.2.1 1 9 && (inB t.2.2.1 0 9 && (inB t.2.2.2.1 1 4 && inB t.2.2.2.2.2 0 4))))
abbrev zTer : TerT := ((⟨#[]⟩ : ByteArray), ([], ((0 : Int), ((0 : Int), false))))
abbrev zKnd : KndT := ((⟨#[]⟩ : ByteArray), ((0 : Int), ((0 : Int), ((0 : Int), (false, (0 : Int))))))
def limB (r : RulT) : Bool := inB r.2.2.1 1 4 && (inB r.2.2.2.1 0 9 && (inB r.2.2.2.2.1 1 9 && (inB r.2.2.2.2.2.1 0 20 && inB r.2.2.2.2.2.2 1 30)))
def goodR (r : RulT) : Bool := inB (r.1.length : Int) 1 6 && (inB (r.2.1.length : Int) 1 4 && ((List.range r.1.length).all (fun i => terB r i (List.getD r.1 i zTer)) && ((List.range r.2.1.length).all (fun i => kndB r i (List.getD r.2.1 i zKnd)) && limB r)))
theorem sR_l0 {k q : Nat} {r : RulT} (hs : smallR r) (hk : 1048576 < k) (hq : r.1.length < q) (K0 : RulT → Option R) (K1 : Bool → Option R) :
    spec_rGood_l0 k K0 K1 q r.1 (r.1.length : Int) 0 r = bif (List.range r.1.length).all (fun i => terB r i (List.getD r.1 i zTer)) then K0 r else K1 false := by
  obtain ⟨s1, s2, s3, s4⟩ := hs
  refine loop_allN (fun m i => spec_rGood_l0 k K0 K1 m r.1 (r.1.length : Int) (i : Int) r) r.1.length _ (K0 r) (K1 false) ?_ ?_ hq
  · intro m i hi
    show spec_rGood_l0 k K0 K1 (m + 1) r.1 (r.1.length : Int) (i : Int) r = bif terB r i (List.getD r.1 i zTer) then spec_rGood_l0 k K0 K1 m r.1 (r.1.length : Int) ((i + 1 : Nat) : Int) r else _
    have hm := s3 _ (List.getElem_mem hi)
    rw [spec_rGood_l0, dlt, d0, decide_eq_true hi, toNatC, wsucc (by omega), getD_lt hi, rName_eq _ (by omega) (by omega), rTerrain_eq _ _ (by omega) (by omega), l1All_eq _ _ _ (by omega) (by omega), l1In_eq, l1In_eq, dnat]
    unfold terB
    cases nameB r.1[i].1
    · rfl
    cases decide (findI (isT r.1[i].1) r.1 = (i : Int))
    · rfl
    cases decide (r.1[i].2.1.length = r.2.1.length)
    · rfl
    cases (r.1[i].2.1.all fun x => inB x 0 9)
    · rfl
    cases inB r.1[i].2.2.1 (-3) 3
    · rfl
    cases inB r.1[i].2.2.2.1 0 3 <;> rfl
  · intro m
    show spec_rGood_l0 k K0 K1 (m + 1) r.1 (r.1.length : Int) (r.1.length : Int) r = _
    rw [spec_rGood_l0, dlt, decide_eq_false (by omega)]; rfl
theorem sR_l1 {k q : Nat} {r : RulT} (hs : smallR r) (hk : 1048576 < k) (hq : r.2.1.length < q) (K0 : RulT → Option R) (K1 : Bool → Option R) :
    spec_rGood_l1 k K0 K1 q r.2.1 (r.2.1.length : Int) 0 r = bif (List.range r.2.1.length).all (fun i => kndB r i (List.getD r.2.1 i zKnd)) then K0 r else K1 false := by
  obtain ⟨s1, s2, s3, s4⟩ := hs
  refine loop_allN (fun m i => spec_rGood_l1 k K0 K1 m r.2.1 (r.2.1.length : Int) (i : Int) r) r.2.1.length _ (K0 r) (K1 false) ?_ ?_ hq
  · intro m i hi
    show spec_rGood_l1 k K0 K1 (m + 1) r.2.1 (r.2.1.length : Int) (i : Int) r = bif kndB r i (List.getD r.2.1 i zKnd) then spec_rGood_l1 k K0 K1 m r.2.1 (r.2.1.length : Int) ((i + 1 : Nat) : Int) r else _
    have hm := s4 _ (List.getElem_mem hi)
    rw [spec_rGood_l1, dlt, d0, decide_eq_true hi, toNatC, wsucc (by omega), getD_lt hi, rName_eq _ (by omega) (by omega), rKind_eq _ _ (by omega) (by omega), l1In_eq, l1In_eq, l1In_eq, l1In_eq]
    unfold kndB
    cases nameB r.2.1[i].1
    · rfl
    cases decide (findI (isK r.2.1[i].1) r.2.1 = (i : Int))
    · rfl
    cases inB r.2.1[i].2.1 1 9
    · rfl
    cases inB r.2.1[i].2.2.1 0 9
    · rfl
    cases inB r.2.1[i].2.2.2.1 1 4
    · rfl
    cases inB r.2.1[i].2.2.2.2.2 0 4 <;> rfl
  · intro m
    show spec_rGood_l1 k K0 K1 (m + 1) r.2.1 (r.2.1.length : Int) (r.2.1.length : Int) r = _
    rw [spec_rGood_l1, dlt, decide_eq_false (by omega)]; rfl
theorem rGood_eq {r : RulT} (hs : smallR r) (K : Bool → Option R) : spec_rGood 4194304 r K = K (goodR r) := by
  have hs' := hs
  obtain ⟨s1, s2, s3, s4⟩ := hs'
  unfold spec_rGood goodR limB
  rw [l1In_eq, l1In_eq, sR_l0 hs (by omega) (by omega), sR_l1 hs (by omega) (by omega), l1In_eq, l1In_eq, l1In_eq, l1In_eq, l1In_eq]
  cases inB (r.1.length : Int) 1 6
  · rfl
  cases inB (r.2.1.length : Int) 1 4
  · rfl
  cases (List.range r.1.length).all (fun i => terB r i (List.getD r.1 i zTer))
  · rfl
  cases (List.range r.2.1.length).all (fun i => kndB r i (List.getD r.2.1 i zKnd))
  · rfl
  cases inB r.2.2.1 1 4
  · rfl
  cases inB r.2.2.2.1 0 9
  · rfl
  cases inB r.2.2.2.2.1 1 9
  · rfl
  cases inB r.2.2.2.2.2.1 0 20 <;> rfl
theorem goodTerrain_eq {k : Nat} (t : TerT) (n : Nat) (h1 : t.1.size < k) (h2 : t.1.size ≤ 137438953472) (h3 : t.2.1.length < k) (h4 : t.2.1.length ≤ 137438953472) (K : Bool → Option R) :
    impl_goodTerrain k t (n : Int) K = K (nameB t.1 && (decide (t.2.1.length = n) && (inB t.2.2.1 (-3) 3 && (inB t.2.2.2.1 0 3 && t.2.1.all fun x => inB x 0 9)))) := by
  unfold impl_goodTerrain
  rw [isName_eq _ h1 h2, dnat, inRange_eq, inRange_eq, notCost_eq _ h3 h4]
  cases nameB t.1
  · rfl
  cases decide (t.2.1.length = n)
  · rfl
  cases inB t.2.2.1 (-3) 3
  · rfl
  cases inB t.2.2.2.1 0 3
  · rfl
  cases (t.2.1.all fun x => inB x 0 9) <;> rfl
theorem goodKind_eq {k : Nat} (t : KndT) (h1 : t.1.size < k) (h2 : t.1.size ≤ 137438953472) (K : Bool → Option R) :
    impl_goodKind k t K = K (nameB t.1 && (inB t.2.1 1 9 && (inB t.2.2.1 0 9 && (inB t.2.2.2.1 1 4 && inB t.2.2.2.2.2 0 4)))) := by
  unfold impl_goodKind
  rw [isName_eq _ h1 h2, inRange_eq, inRange_eq, inRange_eq, inRange_eq]
  cases nameB t.1
  · rfl
  cases inB t.2.1 1 9
  · rfl
  cases inB t.2.2.1 0 9
  · rfl
  cases inB t.2.2.2.1 1 4 <;> rfl
theorem iR_l0 {k q : Nat} {r : RulT} (hs : smallR r) (hk : 1048576 < k) (hq : r.1.length < q) (K0 : RulT → Option R) (K1 : Bool → Option R) :
    impl_IsRules_l0 k K0 K1 q r.1 (r.1.length : Int) 0 r = bif (List.range r.1.length).all (fun i => terB r i (List.getD r.1 i zTer)) then K0 r else K1 false := by
  obtain ⟨s1, s2, s3, s4⟩ := hs
  refine loop_allN (fun m i => impl_IsRules_l0 k K0 K1 m r.1 (r.1.length : Int) (i : Int) r) r.1.length _ (K0 r) (K1 false) ?_ ?_ hq
  · intro m i hi
    show impl_IsRules_l0 k K0 K1 (m + 1) r.1 (r.1.length : Int) (i : Int) r = bif terB r i (List.getD r.1 i zTer) then impl_IsRules_l0 k K0 K1 m r.1 (r.1.length : Int) ((i + 1 : Nat) : Int) r else _
    have hm := s3 _ (List.getElem_mem hi)
    rw [impl_IsRules_l0, dlt, d0, decide_eq_true hi, toNatC, wsucc (by omega), getD_lt hi, goodTerrain_eq _ _ (by omega) (by omega) (by omega) (by omega), terrainIndex_eq _ _ (by omega) (by omega)]
    unfold terB
    cases nameB r.1[i].1
    · rfl
    cases decide (findI (isT r.1[i].1) r.1 = (i : Int)) <;> cases decide (r.1[i].2.1.length = r.2.1.length) <;> cases (r.1[i].2.1.all fun x => inB x 0 9) <;> cases inB r.1[i].2.2.1 (-3) 3 <;> cases inB r.1[i].2.2.2.1 0 3 <;> rfl
  · intro m
    show impl_IsRules_l0 k K0 K1 (m + 1) r.1 (r.1.length : Int) (r.1.length : Int) r = _
    rw [impl_IsRules_l0, dlt, decide_eq_false (by omega)]; rfl
theorem iR_l1 {k q : Nat} {r : RulT} (hs : smallR r) (hk : 1048576 < k) (hq : r.2.1.length < q) (K0 : RulT → Option R) (K1 : Bool → Option R) :
    impl_IsRules_l1 k K0 K1 q r.2.1 (r.2.1.length : Int) 0 r = bif (List.range r.2.1.length).all (fun i => kndB r i (List.getD r.2.1 i zKnd)) then K0 r else K1 false := by
  obtain ⟨s1, s2, s3, s4⟩ := hs
  refine loop_allN (fun m i => impl_IsRules_l1 k K0 K1 m r.2.1 (r.2.1.length : Int) (i : Int) r) r.2.1.length _ (K0 r) (K1 false) ?_ ?_ hq
  · intro m i hi
    show impl_IsRules_l1 k K0 K1 (m + 1) r.2.1 (r.2.1.length : Int) (i : Int) r = bif kndB r i (List.getD r.2.1 i zKnd) then impl_IsRules_l1 k K0 K1 m r.2.1 (r.2.1.length : Int) ((i + 1 : Nat) : Int) r else _
    have hm := s4 _ (List.getElem_mem hi)
    rw [impl_IsRules_l1, dlt, d0, decide_eq_true hi, toNatC, wsucc (by omega), getD_lt hi, goodKind_eq _ (by omega) (by omega), kindIndex_eq _ _ (by omega) (by omega)]
    unfold kndB
    cases nameB r.2.1[i].1
    · rfl
    cases decide (findI (isK r.2.1[i].1) r.2.1 = (i : Int)) <;> cases inB r.2.1[i].2.1 1 9 <;> cases inB r.2.1[i].2.2.1 0 9 <;> cases inB r.2.1[i].2.2.2.1 1 4 <;> cases inB r.2.1[i].2.2.2.2.2 0 4 <;> rfl
  · intro m
    show impl_IsRules_l1 k K0 K1 (m + 1) r.2.1 (r.2.1.length : Int) (r.2.1.length : Int) r = _
    rw [impl_IsRules_l1, dlt, decide_eq_false (by omega)]; rfl
theorem IsRules_eq {r : RulT} (hs : smallR r) (K : Bool → Option R) : impl_IsRules 4194304 r K = K (goodR r) := by
  have hs' := hs
  obtain ⟨s1, s2, s3, s4⟩ := hs'
  unfold impl_IsRules goodR limB
  rw [inRange_eq, inRange_eq, iR_l0 hs (by omega) (by omega), iR_l1 hs (by omega) (by omega), inRange_eq, inRange_eq, inRange_eq, inRange_eq, inRange_eq]
  cases inB (r.1.length : Int) 1 6
  · rfl
  cases inB (r.2.1.length : Int) 1 4
  · rfl
  cases (List.range r.1.length).all (fun i => terB r i (List.getD r.1 i zTer))
  · rfl
  cases (List.range r.2.1.length).all (fun i => kndB r i (List.getD r.2.1 i zKnd))
  · rfl
  cases inB r.2.2.1 1 4
  · rfl
  cases inB r.2.2.2.1 0 9
  · rfl
  cases inB r.2.2.2.2.1 1 9
  · rfl
  cases inB r.2.2.2.2.2.1 0 20 <;> rfl
/-! ### the laws -/
end
end Go.Lg
/- Boards: what the functions answer; their laws. -/
set_option linter.unusedSimpArgs false
set_option linter.unusedVariables false
namespace Go.Lg
open Go Go.Ev
section
variable {R α : Type}
abbrev BrdT := RulT × MapT
abbrev BrdTy : Ty := .st (.pair RulTy MapTy)
def smallB (b : BrdT) : Prop := smallR b.1 ∧ small b.2
theorem szBoard_ret {b : BrdT} (w : Wf BrdTy b) : ∃ r : Int, (∀ {R : Type} (K : Int → Option R), laws_szBoard 4194304 b 1048576 K = K r) ∧ (r = -1 ∨ (inL r ∧ smallB b)) := by
  obtain ⟨w1, w2⟩ := w
  rcases szR_ok b.1 1048576 inL0 with h | ⟨g1, g2, hs⟩
  · exact ⟨-1, fun K => by unfold laws_szBoard; rw [szR_eq (by omega) (wfRul w1) _ inL0, h]; rfl, .inl rfl⟩
  · obtain ⟨r, h1, h2⟩ := szMap_ret w2 (szR b.1 1048576) ⟨g1, g2⟩
    refine ⟨r, fun K => ?_, ?_⟩
    · unfold laws_szBoard
      rw [szR_eq (by omega) (wfRul w1) _ inL0, decide_eq_false (by omega), cond_false, h1]
      rcases h2 with h2 | ⟨h2, _⟩
      · rw [h2]; rfl
      · rw [decide_eq_false (by omega)]; rfl
    · rcases h2 with h2 | ⟨h2, h3, h4⟩
      · exact .inl h2
      · exact .inr ⟨⟨h2, by omega⟩, hs, h4⟩
theorem toBrd_eq {b : BrdT} (hs : smallB b) (K : BrdT → Option R) : laws_toBoard 4194304 b K = K b := by
  unfold laws_toBoard
  rw [toRul_eq hs.1, toMap_eq hs.2]
theorem eqBrd_self {b : BrdT} (hs : smallB b) (K : Bool → Option R) : laws_eqBoard 4194304 b b K = K true := by
  unfold laws_eqBoard
  rw [eqRul_self hs.1, Bool.not_true, cond_false, eqMap_self hs.2]; rfl
def goodB (b : BrdT) : Bool := goodR b.1 && (good b.2 && b.2.2.2.1.all fun x => inB x 0 ((b.1.1.length : Int) - 1))
theorem good_rul {r : RulT} (h : goodR r = true) : (1 ≤ r.1.length ∧ r.1.length ≤ 6) ∧ (1 ≤ r.2.1.length ∧ r.2.1.length ≤ 4) ∧ (∀ i < r.1.length, terB r i (List.getD r.1 i zTer) = true) ∧ (∀ i < r.2.1.length, kndB r i (List.getD r.2.1 i zKnd) = true) ∧ limB r = true := by
  unfold goodR at h
  simp only [Bool.and_eq_true, inB_iff, List.all_eq_true, List.mem_range] at h
  obtain ⟨h1, h2, h3, h4, h5⟩ := h
  exact ⟨by omega, by omega, h3, h4, h5⟩
theorem bGood_eq {b : BrdT} (hs : smallB b) (K : Bool → Option R) : spec_bGood 4194304 b K = K (goodB b) := by
  obtain ⟨s1, s2⟩ := hs
  have s2' := s2
  obtain ⟨q1, q2, q3⟩ := s2'
  unfold spec_bGood goodB
  rw [rGood_eq s1, mGood_eq s2]
  cases hg : goodR b.1
  · rfl
  obtain ⟨h1, _⟩ := good_rul hg
  rw [w64 (by omega), l1All_eq _ _ _ (by omega) (by omega)]
  cases good b.2
  · rfl
  cases (b.2.2.2.1.all fun x => inB x 0 ((b.1.1.length : Int) - 1)) <;> rfl
theorem ter_ge {m : MapT} (h : good m = true) : ∀ x ∈ m.2.2.1, 0 ≤ x ∧ x ≤ 5 := by
  unfold good at h
  simp only [Bool.and_eq_true, inB_iff, List.all_eq_true] at h
  exact h.2.2.2.1
theorem notTer_eq {k : Nat} (l : List Int) (b : BrdT) (h : l.length < k) (hb : l.length ≤ 137438953472) (K : Bool → Option R) : slices_ContainsFunc_Sint_int__impl_IsBoard_1 k l b K = K (l.any fun x => decide ((b.1.1.length : Int) ≤ x)) := by
  unfold slices_ContainsFunc_Sint_int__impl_IsBoard_1 slices_IndexFunc_Sint_int__impl_IsBoard_1
  have := loop_find (fun m i => slices_IndexFunc_Sint_int__impl_IsBoard_1_l0 k (K (decide ((0 : Int) ≤ -1))) (fun x => K (decide (0 ≤ x))) m l b (l.length : Int) (i : Int)) l (fun x => decide ((b.1.1.length : Int) ≤ x)) (fun x => K (decide (0 ≤ x))) ?_ ?_ (m := k) h
  · refine this.trans ?_
    show K (decide (0 ≤ findI (fun x => decide ((b.1.1.length : Int) ≤ x)) l)) = _
    rw [findI_ge]
  · intro m i hi
    show slices_IndexFunc_Sint_int__impl_IsBoard_1_l0 k _ _ (m + 1) l b (l.length : Int) (i : Int) = bif _ then _ else slices_IndexFunc_Sint_int__impl_IsBoard_1_l0 k _ _ m l b (l.length : Int) ((i + 1 : Nat) : Int)
    rw [slices_IndexFunc_Sint_int__impl_IsBoard_1_l0, dlt, d0, decide_eq_true hi, toNatC, wsucc (by omega), getD_lt hi]
    rfl
  · intro m
    show slices_IndexFunc_Sint_int__impl_IsBoard_1_l0 k _ _ (m + 1) l b (l.length : Int) (l.length : Int) = _
    rw [slices_IndexFunc_Sint_int__impl_IsBoard_1_l0, dlt, decide_eq_false (by omega)]; rfl
theorem IsBoard_eq {b : BrdT} (hs : smallB b) (K : Bool → Option R) : impl_IsBoard 4194304 b K = K (goodB b) := by
  obtain ⟨s1, s2⟩ := hs
  have s2' := s2
  obtain ⟨q1, q2, q3⟩ := s2'
  unfold impl_IsBoard goodB
  rw [IsRules_eq s1, IsMap_eq s2, notTer_eq _ _ (by omega) (by omega)]
  cases hg : goodR b.1
  · rfl
  cases hm : good b.2
  · rfl
  show K (!(b.2.2.2.1.any fun x => decide ((b.1.1.length : Int) ≤ x))) = K (b.2.2.2.1.all fun x => inB x 0 ((b.1.1.length : Int) - 1))
  congr 1
  have h0 := ter_ge hm
  rw [Bool.eq_iff_iff]
  simp only [Bool.not_eq_true', List.any_eq_false, List.all_eq_true, decide_eq_true_eq, inB_iff]
  constructor
  · intro h x hx
    have := h x hx
    have := h0 x hx
    omega
  · intro h x hx
    have := h x hx
    omega
/-! ### costs -/
theorem good_brd {b : BrdT} (h : goodB b = true) : goodR b.1 = true ∧ good b.2 = true ∧ ∀ x ∈ b.2.2.2.1, 0 ≤ x ∧ x ≤ (b.1.1.length : Int) - 1 := by
  unfold goodB at h
  simp only [Bool.and_eq_true, inB_iff, List.all_eq_true] at h
  exact h
def terAt (b : BrdT) (i : Int) : TerT := List.getD b.1.1 (Int.toNat (List.getD b.2.2.2.1 (Int.toNat i) (0 : Int))) zTer
def costAt (b : BrdT) (kind i : Int) : Int := List.getD (terAt b i).2.1 (Int.toNat kind) (0 : Int)
def area (b : BrdT) : Int := b.2.1 * b.2.2.1
theorem area_ok {b : BrdT} (h : goodB b = true) : (b.2.2.2.1.length : Int) = area b ∧ 1 ≤ area b ∧ area b ≤ 100 := by
  obtain ⟨_, hm, _⟩ := good_brd h
  exact ⟨ter_len hm, area_le (good_dim hm)⟩
theorem terAt_ok {b : BrdT} (h : goodB b = true) {i : Int} (hi : 0 ≤ i ∧ i < area b) :
    (0 ≤ List.getD b.2.2.2.1 (Int.toNat i) (0 : Int) ∧ List.getD b.2.2.2.1 (Int.toNat i) (0 : Int) < (b.1.1.length : Int)) ∧ (terAt b i).2.1.length = b.1.2.1.length ∧ ∀ x ∈ (terAt b i).2.1, 0 ≤ x ∧ x ≤ 9 := by
  obtain ⟨h1, _, _⟩ := area_ok h
  obtain ⟨hr, hm, ht⟩ := good_brd h
  obtain ⟨_, _, h3, _, _⟩ := good_rul hr
  have hin : List.getD b.2.2.2.1 (Int.toNat i) (0 : Int) ∈ b.2.2.2.1 := by
    rw [getD_lt (by omega)]; exact List.getElem_mem _
  have h0 := ht _ hin
  refine ⟨by omega, ?_⟩
  have h4 := h3 (Int.toNat (List.getD b.2.2.2.1 (Int.toNat i) (0 : Int))) (by omega)
  unfold terB at h4
  simp only [Bool.and_eq_true, inB_iff, List.all_eq_true, decide_eq_true_eq] at h4
  exact ⟨h4.2.2.1, h4.2.2.2.1⟩
theorem costAt_ok {b : BrdT} (h : goodB b = true) {kind i : Int} (hi : 0 ≤ i ∧ i < area b) (hk : 0 ≤ kind ∧ kind < (b.1.2.1.length : Int)) : 0 ≤ costAt b kind i ∧ costAt b kind i ≤ 9 := by
  obtain ⟨_, h2, h3⟩ := terAt_ok h hi
  unfold costAt
  refine h3 _ ?_
  rw [getD_lt (by omega)]; exact List.getElem_mem _
theorem bCost_eq {b : BrdT} (h : goodB b = true) {kind i : Int} (hi : 0 ≤ i ∧ i < area b) (hk : 0 ≤ kind ∧ kind < (b.1.2.1.length : Int)) (K : Int → Option R) : spec_bCost b kind i K = K (costAt b kind i) := by
  obtain ⟨h1, _, _⟩ := area_ok h
  obtain ⟨g1, g2, _⟩ := terAt_ok h hi
  unfold spec_bCost spec_bTerrain
  rw [decide_eq_true hi.1, decide_eq_true (by omega : i < (b.2.2.2.1.length : Int)), decide_eq_true g1.1, decide_eq_true g1.2]
  show (bif decide (0 ≤ kind) && decide (kind < ((terAt b i).2.1.length : Int)) then K (costAt b kind i) else none) = _
  rw [g2, decide_eq_true hk.1, decide_eq_true hk.2]; rfl
theorem enterCost_eq {b : BrdT} (h : goodB b = true) {kind i : Int} (hi : 0 ≤ i ∧ i < area b) (hk : 0 ≤ kind ∧ kind < (b.1.2.1.length : Int)) (K : Int → Option R) : impl_enterCost b kind i K = K (costAt b kind i) := by
  obtain ⟨h1, _, _⟩ := area_ok h
  obtain ⟨g1, g2, _⟩ := terAt_ok h hi
  unfold impl_enterCost impl_terrainAt
  rw [decide_eq_true hi.1, decide_eq_true (by omega : i < (b.2.2.2.1.length : Int)), decide_eq_true g1.1, decide_eq_true g1.2]
  show (bif decide (0 ≤ kind) && decide (kind < ((terAt b i).2.1.length : Int)) then K (costAt b kind i) else none) = _
  rw [g2, decide_eq_true hk.1, decide_eq_true hk.2]; rfl
def bAtB (b : BrdT) (kind i : Int) : Bool := goodB b && (inB kind 0 ((b.1.2.1.length : Int) - 1) && inB i 0 (area b - 1))
theorem bAt_eq {b : BrdT} (hs : smallB b) (kind i : Int) (K : Bool → Option R) : spec_bAt 4194304 b kind i K = K (bAtB b kind i) := by
  unfold spec_bAt bAtB
  rw [bGood_eq hs]
  cases hg : goodB b
  · rfl
  obtain ⟨hr, hm, _⟩ := good_brd hg
  obtain ⟨_, h2, _⟩ := good_rul hr
  obtain ⟨_, h3, h4⟩ := area_ok hg
  rw [cond_true, w64 (by omega), l1In_eq]
  cases inB kind 0 ((b.1.2.1.length : Int) - 1)
  · rfl
  have h4' : b.2.1 * b.2.2.1 ≤ 100 := h4
  have h3' : 1 ≤ b.2.1 * b.2.2.1 := h3
  rw [cond_true, mSize_eq (good_dim hm), w64 (by omega), l1In_eq]; rfl
def kindB (b : BrdT) (kind : Int) : Bool := goodB b && inB kind 0 ((b.1.2.1.length : Int) - 1)
theorem isKindOf_eq {b : BrdT} (hs : smallB b) (kind : Int) (K : Bool → Option R) : impl_isKindOf 4194304 b kind K = K (kindB b kind) := by
  unfold impl_isKindOf kindB
  rw [IsBoard_eq hs]
  cases hg : goodB b
  · rfl
  obtain ⟨hr, hm, _⟩ := good_brd hg
  obtain ⟨_, h2, _⟩ := good_rul hr
  rw [cond_true, isIndex_eq _ _ (by omega)]; rfl
theorem sizeOf_eq (b : BrdT) (K : Int → Option R) : impl_sizeOf b K = K (b.2.2.2.1.length : Int) := rfl
end
end Go.Lg
/- Marks of tables, rules, boards. -/
set_option linter.unusedSimpArgs false
set_option linter.unusedVariables false
namespace Go.Lg
open Go Go.Ev
section
variable {R α σ ι : Type}
theorem set_at' {l r : List α} {x y : α} : (l ++ x :: r).set l.length y = l ++ y :: r := set_at rfl
theorem getD_at' {l r : List α} {x d : α} : (l ++ x :: r).getD l.length d = x := getD_at rfl
theorem len_at {l r : List α} {x : α} : (l ++ x :: r).length = l.length + (r.length + 1) := by simp
theorem lt_at {a b : Nat} : decide ((a : Int) < ((a + (b + 1) : Nat) : Int)) = true := decide_eq_true (by omega)
/-! ### rows of numbers -/
theorem markIntS_k {k : Nat} (a : List Int) (k0 : Int) (hk : 0 ≤ k0 ∧ k0 + a.length ≤ 4000000000000000) (h : a.length < k) (hb : a.length ≤ 137438953472) (K : List Int → Int → Option R) : laws_markIntS_in k a k0 K = K (mI k0 a.length) (k0 + (a.length : Int)) := by
  unfold laws_markIntS_in
  have h0 : a = mI k0 0 ++ a.drop 0 := by simp [mI]
  conv => lhs; rw [h0]
  have e0 : k0 = k0 + ((0 : Nat) : Int) := by omega
  conv => lhs; arg 4; rw [e0]
  refine loop_det (fun m i s => laws_markIntS_in_l0 k (fun x y => K y x) m (k0 + (i : Int)) (i : Int) s) a.length (fun i => mI k0 i ++ a.drop i) _ ?_ ?_ k 0 (Nat.zero_le _) (by omega)
  · intro m i hi
    show laws_markIntS_in_l0 k _ (m + 1) (k0 + (i : Int)) (i : Int) (mI k0 i ++ a.drop i) = laws_markIntS_in_l0 k _ m (k0 + ((i + 1 : Nat) : Int)) ((i + 1 : Nat) : Int) (mI k0 (i + 1) ++ a.drop (i + 1))
    have hl : (mI k0 i ++ a.drop i).length = a.length := by rw [List.length_append, mI_len, List.length_drop]; omega
    rw [laws_markIntS_in_l0, hl, dlt, d0, decide_eq_true hi, toNatC, wsucc (by omega), List.drop_eq_getElem_cons hi, set_at (mI_len k0 i), w64 (by omega), mI_succ, List.append_assoc, show k0 + (i : Int) + 1 = k0 + ((i + 1 : Nat) : Int) by omega]
    rfl
  · intro m
    have hl : (mI k0 a.length ++ a.drop a.length) = mI k0 a.length := by rw [List.drop_length, List.append_nil]
    show laws_markIntS_in_l0 k _ (m + 1) (k0 + (a.length : Int)) (a.length : Int) (mI k0 a.length ++ a.drop a.length) = _
    rw [hl, laws_markIntS_in_l0, mI_len, dlt, decide_eq_false (by omega)]; rfl
theorem heldIntS_k {k : Nat} (k0 : Int) (n : Nat) (hk : 0 ≤ k0 ∧ k0 + n ≤ 4000000000000000) (h : n < k) (hb : n ≤ 137438953472) (K : Int → Option R) : laws_heldIntS k (mI k0 n) k0 K = K (k0 + (n : Int)) := by
  unfold laws_heldIntS
  have e0 : k0 = k0 + ((0 : Nat) : Int) := by omega
  conv => lhs; arg 6; rw [e0]
  refine loop_det (fun m i s => laws_heldIntS_l0 k (fun x => K x) (fun x => K x) m (mI k0 n) s (i : Int)) n (fun i => k0 + (i : Int)) _ ?_ ?_ k 0 (Nat.zero_le _) (by omega)
  · intro m i hi
    show laws_heldIntS_l0 k _ _ (m + 1) (mI k0 n) (k0 + (i : Int)) (i : Int) = laws_heldIntS_l0 k _ _ m (mI k0 n) (k0 + ((i + 1 : Nat) : Int)) ((i + 1 : Nat) : Int)
    have e : (mI k0 n).getD i 0 = k0 + (i : Int) := by
      rw [getD_lt (by rw [mI_len]; exact hi)]; simp [mI]
    rw [laws_heldIntS_l0, mI_len, dlt, d0, decide_eq_true hi, toNatC, wsucc (by omega), e, decide_eq_true rfl, w64 (by omega), show k0 + (i : Int) + 1 = k0 + ((i + 1 : Nat) : Int) by omega]
    rfl
  · intro m
    show laws_heldIntS_l0 k _ _ (m + 1) (mI k0 n) (k0 + (n : Int)) (n : Int) = _
    rw [laws_heldIntS_l0, mI_len, dlt, decide_eq_false (by omega)]; rfl
def fI (k : Int) (a : List Int) : List Int := mI k a.length
def cI (a : List Int) : Nat := a.length
theorem markIntSS_k {k : Nat} (a : List (List Int)) (k0 : Int) (h0 : 0 ≤ k0) (hc : k0 + cS cI a ≤ 4000000000000000) (hl : a.length < k) (hb : a.length ≤ 137438953472) (hx : ∀ x ∈ a, x.length < k ∧ x.length ≤ 137438953472) (K : List (List Int) → Int → Option R) : laws_markIntSS_in k a k0 K = K (fS fI cI k0 a) (k0 + (cS cI a : Int)) := by
  unfold laws_markIntSS_in
  refine loop_mark fI cI (fun m k1 i s => laws_markIntSS_in_l0 k (fun k_1 b => K b k_1) m k1 (i : Int) s) (fun k1 s => K s k1) (fun x => x.length < k ∧ x.length ≤ 137438953472) ?_ ?_ k [] a k0 hx h0 hc (by simpa using hb) hl
  · intro m k1 x pre r hx h0 h1 hl
    show laws_markIntSS_in_l0 k _ (m + 1) k1 (pre.length : Int) (pre ++ x :: r) = laws_markIntSS_in_l0 k _ m (k1 + (cI x : Nat)) ((pre.length + 1 : Nat) : Int) (pre ++ fI k1 x :: r)
    simp only [List.length_cons] at hl
    unfold cI at h1
    rw [laws_markIntSS_in_l0, len_at, lt_at, d0, toNatC, wsucc (by omega), getD_at', markIntS_k x k1 ⟨h0, h1⟩ hx.1 hx.2, set_at']
    rfl
  · intro m k1 s hs
    show laws_markIntSS_in_l0 k _ (m + 1) k1 (s.length : Int) s = _
    rw [laws_markIntSS_in_l0, dlt, decide_eq_false (by omega)]; rfl
/-! ### odds -/
theorem cS_bound (c : α → Nat) (B : Nat) : ∀ (l : List α), (∀ x ∈ l, c x ≤ B) → cS c l ≤ B * l.length
  | [], _ => by simp [cS]
  | x :: l, h => by
    have h1 := h x (by simp)
    have h2 := cS_bound c B l (fun y hy => h y (by simp [hy]))
    simp only [cS, List.length_cons, Nat.mul_succ]
    omega
theorem cS_small (c : α → Nat) (l : List α) (hl : l.length ≤ 1048576) (h : ∀ x ∈ l, c x ≤ 1048580) : cS c l ≤ 1099515822080 := by
  have h1 := cS_bound c 1048580 l h
  have h2 : 1048580 * l.length ≤ 1048580 * 1048576 := Nat.mul_le_mul_left _ hl
  omega
/-! ### texts -/
def txtGo : Nat → Int → ByteArray → ByteArray
  | 0, _, o => o
  | f + 1, k, o => if 0 < k then txtGo f (Int.tdiv k 10) (bytesOfInts [IntKind.wrap .u8 (48 + Int.tmod k 10)] ++ o) else o
def txtM (k : Int) : ByteArray := if k ≤ 0 then (⟨#[109, 48]⟩ : ByteArray) else (⟨#[109]⟩ : ByteArray) ++ txtGo 20 k (⟨#[]⟩ : ByteArray)
theorem bytes1 (x : Int) : (bytesOfInts [x]).size = 1 := rfl
theorem txtGo_size : ∀ (f : Nat) (k : Int) (o : ByteArray), (txtGo f k o).size ≤ o.size + f
  | 0, _, o => by simp [txtGo]
  | f + 1, k, o => by
    unfold txtGo
    split
    · have := txtGo_size f (Int.tdiv k 10) (bytesOfInts [IntKind.wrap .u8 (48 + Int.tmod k 10)] ++ o)
      rw [ByteArray.size_append, bytes1] at this
      omega
    · omega
theorem markText_l0_eq {k : Nat} (K0 : ByteArray → Option R) : ∀ (f m : Nat) (n : Int) (o : ByteArray), 0 ≤ n → n < 10 ^ f → n ≤ 4000000000000000 → f < m → o.size + f ≤ 100 → laws_markText_l0 k K0 m n o = K0 (txtGo f n o)
  | 0, m + 1, n, o, h0, h1, hB, hm, ho => by
    have : n = 0 := by
      have : (10 : Int) ^ 0 = 1 := rfl
      omega
    subst this
    rw [laws_markText_l0]; rfl
  | f + 1, m + 1, n, o, h0, h1, hB, hm, ho => by
    rw [laws_markText_l0]
    unfold txtGo
    by_cases h : 0 < n
    · have ht : Int.tmod n 10 = n % 10 := Int.tmod_eq_emod_of_nonneg h0
      have hd : Int.tdiv n 10 = n / 10 := Int.tdiv_eq_ediv_of_nonneg h0
      have hp : (10 : Int) ^ (f + 1) = 10 * 10 ^ f := by rw [Int.pow_succ]; exact Int.mul_comm _ _
      rw [decide_eq_true h, if_pos h, cond_true, w64 (n := 48 + Int.tmod n 10) (by omega), w64 (n := Int.tdiv n 10) (by omega), bytes1, decide_eq_true (by unfold maxGrow; omega), cond_true]
      refine markText_l0_eq K0 f m _ _ (by omega) (by omega) (by omega) (by omega) ?_
      rw [ByteArray.size_append, bytes1]; omega
    · rw [decide_eq_false h, if_neg h]; rfl
theorem markText_eq {k : Nat} (hk : 21 < k) (n : Int) (h0 : 0 ≤ n) (hB : n ≤ 4000000000000000) (K : ByteArray → Option R) : laws_markText k n K = K (txtM n) := by
  unfold laws_markText txtM
  by_cases h : n ≤ 0
  · rw [decide_eq_true h, if_pos h]; rfl
  · have hs : (⟨#[]⟩ : ByteArray).size = 0 := rfl
    rw [decide_eq_false h, if_neg h, cond_false, markText_l0_eq _ 20 k n _ h0 (by have : (10 : Int) ^ 20 = 100000000000000000000 := by decide
                                                                                  omega) hB (by omega) (by rw [hs]; omega)]
    have h2 := txtGo_size 20 n (⟨#[]⟩ : ByteArray)
    have h3 : (⟨#[109]⟩ : ByteArray).size = 1 := rfl
    rw [decide_eq_true (by unfold maxGrow; rw [hs] at h2; rw [h3]; omega), cond_true]
/-! ### terrains and kinds -/
def fT (k : Int) (x : TerT) : TerT := (txtM k, mI (k + 1) x.2.1.length, k + 1 + x.2.1.length, k + 2 + x.2.1.length, decide (Int.tmod (k + 3 + x.2.1.length) 3 = 0))
def cT (x : TerT) : Nat := x.2.1.length + 4
def fK (k : Int) (x : KndT) : KndT := (txtM k, k + 1, k + 2, k + 3, decide (Int.tmod (k + 4) 3 = 0), k + 5)
def cK (x : KndT) : Nat := 6
theorem markTerrainS_k {k : Nat} (hk : 21 < k) (a : List TerT) (k0 : Int) (h0 : 0 ≤ k0) (hc : k0 + cS cT a ≤ 4000000000000000) (hl : a.length < k) (hb : a.length ≤ 137438953472) (hx : ∀ x ∈ a, x.2.1.length < k ∧ x.2.1.length ≤ 137438953472) (K : List TerT → Int → Option R) : laws_markTerrainS_in k a k0 K = K (fS fT cT k0 a) (k0 + (cS cT a : Int)) := by
  unfold laws_markTerrainS_in
  refine loop_mark fT cT (fun m k1 i s => laws_markTerrainS_in_l0 k (fun k_1 b => K b k_1) m k1 (i : Int) s) (fun k1 s => K s k1) (fun x => x.2.1.length < k ∧ x.2.1.length ≤ 137438953472) ?_ ?_ k [] a k0 hx h0 hc (by simpa using hb) hl
  · intro m k1 x pre r hx h0 h1 hl
    show laws_markTerrainS_in_l0 k _ (m + 1) k1 (pre.length : Int) (pre ++ x :: r) = laws_markTerrainS_in_l0 k _ m (k1 + (cT x : Nat)) ((pre.length + 1 : Nat) : Int) (pre ++ fT k1 x :: r)
    simp only [List.length_cons] at hl
    unfold cT at h1
    push_cast at h1
    have hB : k1 ≤ 4000000000000000 := by omega
    rw [laws_markTerrainS_in_l0, markText_eq hk k1 h0 hB, w64 (n := k1 + 1) (by omega)]
    simp only [toNatC, set_at', getD_at', len_at, lt_at, d0, cond_true, Bool.and_self]
    rw [markIntS_k x.2.1 (k1 + 1) ⟨by omega, by omega⟩ hx.1 hx.2]
    rw [w64 (n := k1 + 1 + (x.2.1.length : Int) + 1) (by omega), w64 (n := k1 + 1 + (x.2.1.length : Int) + 1 + 1) (by omega), w64 (n := k1 + 1 + (x.2.1.length : Int) + 1 + 1 + 1) (by omega), wsucc (by omega)]
    unfold fT cT
    push_cast
    rw [show k1 + 1 + (x.2.1.length : Int) + 1 + 1 + 1 = k1 + (x.2.1.length + 4) by omega, show k1 + 1 + (x.2.1.length : Int) + 1 + 1 = k1 + 3 + x.2.1.length by omega, show k1 + 1 + (x.2.1.length : Int) + 1 = k1 + 2 + x.2.1.length by omega]
    rw [show k1 + ((x.2.1.length : Int) + 1 + 1 + 1 + 1) = k1 + (x.2.1.length + 4) by omega]
  · intro m k1 s hs
    show laws_markTerrainS_in_l0 k _ (m + 1) k1 (s.length : Int) s = _
    rw [laws_markTerrainS_in_l0, dlt, decide_eq_false (by omega)]; rfl
theorem markKindS_k {k : Nat} (hk : 21 < k) (a : List KndT) (k0 : Int) (h0 : 0 ≤ k0) (hc : k0 + cS cK a ≤ 4000000000000000) (hl : a.length < k) (hb : a.length ≤ 137438953472) (K : List KndT → Int → Option R) : laws_markKindS_in k a k0 K = K (fS fK cK k0 a) (k0 + (cS cK a : Int)) := by
  unfold laws_markKindS_in
  refine loop_mark fK cK (fun m k1 i s => laws_markKindS_in_l0 k (fun k_1 b => K b k_1) m k1 (i : Int) s) (fun k1 s => K s k1) (fun x => True) ?_ ?_ k [] a k0 (fun _ _ => trivial) h0 hc (by simpa using hb) hl
  · intro m k1 x pre r hx h0 h1 hl
    show laws_markKindS_in_l0 k _ (m + 1) k1 (pre.length : Int) (pre ++ x :: r) = laws_markKindS_in_l0 k _ m (k1 + (cK x : Nat)) ((pre.length + 1 : Nat) : Int) (pre ++ fK k1 x :: r)
    simp only [List.length_cons] at hl
    unfold cK at h1
    push_cast at h1
    have hB : k1 ≤ 4000000000000000 := by omega
    rw [laws_markKindS_in_l0, markText_eq hk k1 h0 hB, w64 (n := k1 + 1) (by omega), w64 (n := k1 + 1 + 1) (by omega), w64 (n := k1 + 1 + 1 + 1) (by omega), w64 (n := k1 + 1 + 1 + 1 + 1) (by omega), w64 (n := k1 + 1 + 1 + 1 + 1 + 1) (by omega), w64 (n := k1 + 1 + 1 + 1 + 1 + 1 + 1) (by omega), wsucc (by omega)]
    simp only [toNatC, set_at', getD_at', len_at, lt_at, d0, cond_true, Bool.and_self]
    unfold fK cK
    push_cast
    rw [show k1 + 1 + 1 + 1 + 1 + 1 + 1 = k1 + 6 by omega, show k1 + 1 + 1 + 1 + 1 + 1 = k1 + 5 by omega, show k1 + 1 + 1 + 1 + 1 = k1 + 4 by omega, show k1 + 1 + 1 + 1 = k1 + 3 by omega, show k1 + 1 + 1 = k1 + 2 by omega]
  · intro m k1 s hs
    show laws_markKindS_in_l0 k _ (m + 1) k1 (s.length : Int) s = _
    rw [laws_markKindS_in_l0, dlt, decide_eq_false (by omega)]; rfl
/-! ### rules, maps, boards -/
def markR (k : Int) (r : RulT) : RulT := (fS fT cT k r.1, fS fK cK (k + cS cT r.1) r.2.1, r.2.2)
def cR (r : RulT) : Int := (cS cT r.1 : Int) + cS cK r.2.1
theorem cR_le {r : RulT} (hs : smallR r) : 0 ≤ cR r ∧ cR r ≤ 2199031644160 := by
  obtain ⟨s1, s2, s3, s4⟩ := hs
  have h1 := cS_small cT r.1 s1 (fun x hx => by have := (s3 x hx).2; unfold cT; omega)
  have h2 := cS_small cK r.2.1 s2 (fun x hx => by unfold cK; omega)
  unfold cR
  omega
theorem markRules_eq {r : RulT} (hs : smallR r) (k0 : Int) (h0 : 0 ≤ k0) (hB : k0 ≤ 1000000000000000) (K : RulT → Int → Option R) : laws_markRules_in 4194304 r k0 K = K (markR k0 r) (k0 + cR r) := by
  have hc := cR_le hs
  obtain ⟨s1, s2, s3, s4⟩ := hs
  have h1 := cS_small cT r.1 s1 (fun x hx => by have := (s3 x hx).2; unfold cT; omega)
  have h2 := cS_small cK r.2.1 s2 (fun x hx => by unfold cK; omega)
  unfold laws_markRules_in
  rw [markTerrainS_k (by omega) _ _ h0 (by omega) (by omega) (by omega) (fun x hx => by have := (s3 x hx).2; omega), markKindS_k (by omega) _ _ (by omega) (by omega) (by omega) (by omega)]
  unfold markR cR
  rw [show k0 + (cS cT r.1 : Int) + (cS cK r.2.1 : Int) = k0 + ((cS cT r.1 : Int) + cS cK r.2.1) by omega]
def markM (k : Int) (m : MapT) : MapT := (m.1, m.2.1, mI k m.2.2.1.length, mI (k + m.2.2.1.length) m.2.2.2.1.length, mI (k + m.2.2.1.length + m.2.2.2.1.length) m.2.2.2.2.length)
def cM (m : MapT) : Int := (m.2.2.1.length : Int) + m.2.2.2.1.length + m.2.2.2.2.length
theorem cM_le {m : MapT} (hs : small m) : 0 ≤ cM m ∧ cM m ≤ 3145728 := by
  obtain ⟨s1, s2, s3⟩ := hs
  unfold cM
  omega
theorem markMap_k {m : MapT} (hs : small m) (k0 : Int) (h0 : 0 ≤ k0) (hB : k0 ≤ 2000000000000000) (K : MapT → Int → Option R) : laws_markMap_in 4194304 m k0 K = K (markM k0 m) (k0 + cM m) := by
  obtain ⟨s1, s2, s3⟩ := hs
  unfold laws_markMap_in
  rw [markIntS_k _ _ ⟨h0, by omega⟩ (by omega) (by omega), markIntS_k _ _ ⟨by omega, by omega⟩ (by omega) (by omega), markIntS_k _ _ ⟨by omega, by omega⟩ (by omega) (by omega)]
  unfold markM cM
  rw [show k0 + (m.2.2.1.length : Int) + (m.2.2.2.1.length : Int) + (m.2.2.2.2.length : Int) = k0 + ((m.2.2.1.length : Int) + m.2.2.2.1.length + m.2.2.2.2.length) by omega]
def markB (k : Int) (b : BrdT) : BrdT := (markR k b.1, markM (k + cR b.1) b.2)
def cB (b : BrdT) : Int := cR b.1 + cM b.2
theorem cB_le {b : BrdT} (hs : smallB b) : 0 ≤ cB b ∧ cB b ≤ 2200000000000 := by
  have h1 := cR_le hs.1
  have h2 := cM_le hs.2
  unfold cB
  omega
theorem markBoard_eq {b : BrdT} (hs : smallB b) (K : BrdT → Int → Option R) : laws_markBoard_in 4194304 b 1 K = K (markB 1 b) (1 + cB b) := by
  have h1 := cR_le hs.1
  unfold laws_markBoard_in
  rw [markRules_eq hs.1 1 (by omega) (by omega), markMap_k hs.2 _ (by omega) (by omega)]
  unfold markB cB
  rw [show 1 + cR b.1 + cM b.2 = 1 + (cR b.1 + cM b.2) by omega]
  rfl
end
end Go.Lg
/- Counts of results; open hexes, unused terrains, stuck kinds: the laws. -/
set_option linter.unusedSimpArgs false
set_option linter.unusedVariables false
namespace Go.Lg
open Go Go.Ev
section
variable {R α σ ι : Type}
section
variable {t : TabT} {c : Int} (hg : goodT t = true) (h2 : 0 ≤ c) (h3 : c ≤ (t.1.length : Int) - 1)
include hg h2 h3
end
/-! ### open hexes -/
def openV (b : BrdT) (kind : Int) (n : Nat) : List Int := ((List.range n).filter fun (i : Nat) => decide (0 < costAt b kind (i : Int))).map fun (i : Nat) => (i : Int)
theorem openV_succ (b : BrdT) (kind : Int) (n : Nat) : openV b kind (n + 1) = if 0 < costAt b kind (n : Int) then openV b kind n ++ [(n : Int)] else openV b kind n := by
  unfold openV
  rw [List.range_succ, List.filter_append, List.map_append]
  by_cases h : 0 < costAt b kind (n : Int)
  · rw [if_pos h, List.filter_cons, if_pos (by simpa using h)]; rfl
  · rw [if_neg h, List.filter_cons, if_neg (by simpa using h)]; simp
theorem openV_len (b : BrdT) (kind : Int) (n : Nat) : (openV b kind n).length ≤ n := by
  unfold openV
  rw [List.length_map]
  exact Nat.le_trans (List.length_filter_le _ _) (by simp)
theorem openV_mem {b : BrdT} {kind : Int} {n : Nat} {x : Int} (h : x ∈ openV b kind n) : 0 ≤ x ∧ x < n ∧ 0 < costAt b kind x := by
  unfold openV at h
  obtain ⟨i, hi, rfl⟩ := List.mem_map.1 h
  obtain ⟨h1, h2⟩ := List.mem_filter.1 hi
  have := List.mem_range.1 h1
  exact ⟨by omega, by omega, by simpa using h2⟩
section
variable {b : BrdT} (hg : goodB b = true) {kind : Int} (hk : 0 ≤ kind ∧ kind < (b.1.2.1.length : Int))
include hg hk
theorem bOpen_eq {k : Nat} (hq : 200 < k) (K : List Int → Option R) : spec_bOpen k b kind K = K (openV b kind b.2.2.2.1.length) := by
  obtain ⟨h1, h2, h3⟩ := area_ok hg
  unfold spec_bOpen
  refine loop_det (fun m i s => spec_bOpen_l0 k (fun x => K x) m kind (b.2.2.2.1.length : Int) (i : Int) b s) b.2.2.2.1.length (openV b kind) (K (openV b kind b.2.2.2.1.length)) ?_ ?_ k 0 (Nat.zero_le _) (by omega)
  · intro m i hi
    have hl := openV_len b kind i
    show spec_bOpen_l0 k _ (m + 1) kind _ (i : Int) b (openV b kind i) = spec_bOpen_l0 k _ m kind _ ((i + 1 : Nat) : Int) b (openV b kind (i + 1))
    rw [spec_bOpen_l0, dlt, decide_eq_true hi, cond_true, bCost_eq hg (by omega) hk, wsucc (by omega), openV_succ]
    by_cases h : 0 < costAt b kind (i : Int)
    · rw [decide_eq_true h, if_pos h, decide_eq_true (by unfold maxGrow; simp; omega)]; rfl
    · rw [decide_eq_false h, if_neg h]; rfl
  · intro m
    show spec_bOpen_l0 k _ (m + 1) kind _ (b.2.2.2.1.length : Int) b _ = _
    rw [spec_bOpen_l0, dlt, decide_eq_false (by omega)]; rfl
theorem openHexes_eq {k : Nat} (hq : 200 < k) (K : List Int → Option R) : impl_openHexes k b kind K = K (openV b kind b.2.2.2.1.length) := by
  obtain ⟨h1, h2, h3⟩ := area_ok hg
  unfold impl_openHexes
  refine loop_det (fun m i s => impl_openHexes_l0 k (fun x => K x) m kind (b.2.2.2.1.length : Int) (i : Int) b s) b.2.2.2.1.length (openV b kind) (K (openV b kind b.2.2.2.1.length)) ?_ ?_ k 0 (Nat.zero_le _) (by omega)
  · intro m i hi
    have hl := openV_len b kind i
    have hc := costAt_ok hg (i := (i : Int)) (by omega) hk
    show impl_openHexes_l0 k _ (m + 1) kind _ (i : Int) b (openV b kind i) = impl_openHexes_l0 k _ m kind _ ((i + 1 : Nat) : Int) b (openV b kind (i + 1))
    rw [impl_openHexes_l0, dlt, decide_eq_true hi, cond_true, enterCost_eq hg (by omega) hk, wsucc (by omega), openV_succ]
    by_cases h : 0 < costAt b kind (i : Int)
    · rw [decide_eq_false (by omega), if_pos h, decide_eq_true (by unfold maxGrow; simp; omega)]; rfl
    · rw [decide_eq_true (by omega), if_neg h]; rfl
  · intro m
    show impl_openHexes_l0 k _ (m + 1) kind _ (b.2.2.2.1.length : Int) b _ = _
    rw [impl_openHexes_l0, dlt, decide_eq_false (by omega)]; rfl
end
theorem bAtB_0 {b : BrdT} {kind : Int} : bAtB b kind 0 = kindB b kind := by
  unfold bAtB kindB
  cases hg : goodB b
  · rfl
  · obtain ⟨h1, h2, h3⟩ := area_ok hg
    have : inB 0 0 (area b - 1) = true := inB_iff.2 (by omega)
    rw [this, Bool.and_true]
theorem kindB_iff {b : BrdT} {kind : Int} (h : kindB b kind = true) : goodB b = true ∧ 0 ≤ kind ∧ kind < (b.1.2.1.length : Int) := by
  unfold kindB at h
  simp only [Bool.and_eq_true, inB_iff] at h
  exact ⟨h.1, by omega, by omega⟩
/-! ### unused terrains -/
end
end Go.Lg
/- Stuck kinds: the law. -/
set_option linter.unusedSimpArgs false
set_option linter.unusedVariables false
namespace Go.Lg
open Go Go.Ev
section
variable {R α σ ι : Type}
def filtV (p : Nat → Bool) (h : Nat → Int) (n : Nat) : List Int := ((List.range n).filter p).map h
theorem filtV_succ (p : Nat → Bool) (h : Nat → Int) (n : Nat) : filtV p h (n + 1) = if p n = true then filtV p h n ++ [h n] else filtV p h n := by
  unfold filtV
  rw [List.range_succ, List.filter_append, List.map_append, List.filter_cons]
  split
  · rfl
  · simp
theorem filtV_len (p : Nat → Bool) (h : Nat → Int) (n : Nat) : (filtV p h n).length ≤ n := by
  unfold filtV
  rw [List.length_map]
  exact Nat.le_trans (List.length_filter_le _ _) (by simp)
theorem filtV_mem {p : Nat → Bool} {h : Nat → Int} {n : Nat} {x : Int} (hx : x ∈ filtV p h n) : ∃ i, i < n ∧ p i = true ∧ x = h i := by
  unfold filtV at hx
  obtain ⟨i, hi, rfl⟩ := List.mem_map.1 hx
  obtain ⟨h1, h2⟩ := List.mem_filter.1 hi
  exact ⟨i, List.mem_range.1 h1, h2, rfl⟩
theorem nextOf_lt {m : MapT} (hm : mapDim m) (i d : Int) : -1 ≤ nextOf m i d ∧ nextOf m i d < m.1 * m.2.1 := by
  have ha := area_le hm
  unfold nextOf ixOf
  cases hb : (inB (step (hexAt m i) d).1 0 (m.1 - 1) && inB (step (hexAt m i) d).2 0 (m.2.1 - 1))
  · simp; omega
  · have := mul_lt_area hm hb
    simp only [cond_true]
    omega
/-- The neighbours of a hex on the map. -/
def neighV (m : MapT) (i : Int) (n : Nat) : List Int := filtV (fun d => decide (0 ≤ nextOf m i (d : Int))) (fun d => nextOf m i (d : Int)) n
theorem neighV_mem {m : MapT} (hm : mapDim m) {i x : Int} {n : Nat} (h : x ∈ neighV m i n) : 0 ≤ x ∧ x < m.1 * m.2.1 := by
  obtain ⟨d, _, h2, rfl⟩ := filtV_mem h
  have := nextOf_lt hm i (d : Int)
  simp only [decide_eq_true_eq] at h2
  omega
theorem neighboursOn_eq {k : Nat} (hk : 10 < k) {m : MapT} (hm : mapDim m) {i : Int} (hi : 0 ≤ i ∧ i ≤ 900) (K : List Int → Option R) : impl_neighboursOn k m i K = K (neighV m i 6) := by
  unfold impl_neighboursOn
  refine loop_det (fun q d s => impl_neighboursOn_l0 k (fun x => K x) q i (d : Int) m s) 6 (neighV m i) (K (neighV m i 6)) ?_ ?_ k 0 (by omega) (by omega)
  · intro q d hd
    have hl := filtV_len (fun d => decide (0 ≤ nextOf m i (d : Int))) (fun d => nextOf m i (d : Int)) d
    show impl_neighboursOn_l0 k _ (q + 1) i (d : Int) m (neighV m i d) = impl_neighboursOn_l0 k _ q i ((d + 1 : Nat) : Int) m (neighV m i (d + 1))
    rw [impl_neighboursOn_l0, decide_eq_true (by omega : (d : Int) < 6), cond_true, nextTo_eq hm hi (by omega), wsucc (by omega)]
    unfold neighV at *
    rw [filtV_succ]
    by_cases h : 0 ≤ nextOf m i (d : Int)
    · rw [decide_eq_true h, cond_true, if_pos rfl, decide_eq_true (by unfold maxGrow; simp; omega)]; rfl
    · rw [decide_eq_false h, if_neg (by simp)]; rfl
  · intro q
    show impl_neighboursOn_l0 k _ (q + 1) i ((6 : Nat) : Int) m _ = _
    rw [impl_neighboursOn_l0, decide_eq_false (by omega)]; rfl
section
variable {b : BrdT} (hg : goodB b = true) {kind : Int} (hk : 0 ≤ kind ∧ kind < (b.1.2.1.length : Int))
include hg hk
end
end
end Go.Lg
/- Regions: walks over a graph, in plain words. -/
set_option linter.unusedSimpArgs false
set_option linter.unusedVariables false
namespace Go.Lg
open Go Go.Ev
section
variable {R α σ ι : Type}
/-! ### sorting and putting in -/
theorem sortI_perm (l : List Int) : (sortI l).Perm l := List.mergeSort_perm l _
theorem sortI_mem {l : List Int} {x : Int} : x ∈ sortI l ↔ x ∈ l := List.mem_mergeSort
theorem sortI_len (l : List Int) : (sortI l).length = l.length := List.length_mergeSort l
theorem sortI_up (l : List Int) : (sortI l).Pairwise (· ≤ ·) := by
  have := List.pairwise_mergeSort (le := fun (x y : Int) => decide (x ≤ y)) (fun a b c h1 h2 => by simp only [decide_eq_true_eq] at *; omega) (fun a b => by simp only [Bool.or_eq_true, decide_eq_true_eq]; omega) l
  exact this.imp (fun h => by simpa using h)
theorem sortI_uniq {l s : List Int} (h1 : s.Pairwise (· ≤ ·)) (h2 : s.Perm l) : sortI l = s :=
  List.Perm.eq_of_pairwise (le := (· ≤ ·)) (fun a b _ _ h3 h4 => by have h3 : a ≤ b := h3; have h4 : b ≤ a := h4; omega) (sortI_up l) h1 ((sortI_perm l).trans h2.symm)
def putI (n : Int) (l : List Int) : List Int := l.takeWhile (fun x => decide (x < n)) ++ [n] ++ l.dropWhile (fun x => decide (x < n))
theorem dropWhile_le {n : Int} : ∀ {l : List Int}, l.Pairwise (· ≤ ·) → ∀ x ∈ l.dropWhile (fun x => decide (x < n)), n ≤ x
  | [], _, x, h => by cases h
  | a :: l, hp, x, h => by
    rw [List.dropWhile_cons] at h
    obtain ⟨h1, h2⟩ := List.pairwise_cons.1 hp
    by_cases ha : a < n
    · rw [if_pos (by simpa using ha)] at h
      exact dropWhile_le h2 x h
    · rw [if_neg (by simpa using ha)] at h
      rcases List.mem_cons.1 h with rfl | h
      · omega
      · have := h1 x h; omega
theorem takeWhile_lt {n : Int} : ∀ {l : List Int}, ∀ x ∈ l.takeWhile (fun x => decide (x < n)), x < n
  | [], x, h => by cases h
  | a :: l, x, h => by
    rw [List.takeWhile_cons] at h
    by_cases ha : a < n
    · rw [if_pos (by simpa using ha)] at h
      rcases List.mem_cons.1 h with rfl | h
      · exact ha
      · exact takeWhile_lt x h
    · rw [if_neg (by simpa using ha)] at h
      cases h
theorem putI_perm (n : Int) (l : List Int) : (putI n l).Perm (l ++ [n]) := by
  have e : l.takeWhile (fun x => decide (x < n)) ++ l.dropWhile (fun x => decide (x < n)) = l := List.takeWhile_append_dropWhile
  unfold putI
  refine List.Perm.trans ?_ (List.Perm.append_right [n] (List.Perm.of_eq e))
  rw [List.append_assoc, List.append_assoc]
  exact List.Perm.append_left _ List.perm_append_comm
theorem putI_up {n : Int} {l : List Int} (h : l.Pairwise (· ≤ ·)) : (putI n l).Pairwise (· ≤ ·) := by
  unfold putI
  have h1 := h.sublist (List.takeWhile_sublist (fun x => decide (x < n)))
  have h2 := h.sublist (List.dropWhile_sublist (fun x => decide (x < n)))
  rw [List.append_assoc, List.pairwise_append]
  refine ⟨h1, ?_, ?_⟩
  · exact List.pairwise_cons.2 ⟨fun x hx => dropWhile_le h x hx, h2⟩
  · intro a ha b hb
    have ha := takeWhile_lt a ha
    rcases List.mem_cons.1 hb with rfl | hb
    · omega
    · have := dropWhile_le h b hb; omega
theorem putI_sort (n : Int) (l : List Int) : putI n (sortI l) = sortI (l ++ [n]) :=
  (sortI_uniq (putI_up (sortI_up l)) ((putI_perm n (sortI l)).trans (List.Perm.append_right [n] (sortI_perm l)))).symm
/-- A loop that goes to the first place where p ends. -/
theorem loop_upto (L : Nat → Nat → Option R) (x : List α) (p : α → Bool) (F : Nat → Option R)
    (hs : ∀ m i (h : i < x.length), L (m + 1) i = bif p x[i] then L m (i + 1) else F i) (he : ∀ m, L (m + 1) x.length = F x.length) : ∀ m i, i ≤ x.length → x.length - i < m → L m i = F (i + ((x.drop i).takeWhile p).length) := by
  intro m
  induction m with
  | zero => intro i h1 h2; omega
  | succ m ih =>
    intro i h1 h2
    rcases Nat.lt_or_ge i x.length with h | h
    · rw [hs m i h, List.drop_eq_getElem_cons h, List.takeWhile_cons]
      cases hp : p x[i]
      · simp
      · rw [cond_true, ih (i + 1) (by omega) (by omega), if_pos rfl, List.length_cons]
        congr 1; omega
    · have : i = x.length := by omega
      subst this
      rw [he, List.drop_length]; simp
theorem take_tw (l : List Int) (p : Int → Bool) : l.take (l.takeWhile p).length = l.takeWhile p := by
  conv => lhs; arg 2; rw [← List.takeWhile_append_dropWhile (p := p) (l := l)]
  exact List.take_left
theorem drop_tw (l : List Int) (p : Int → Bool) : l.drop (l.takeWhile p).length = l.dropWhile p := by
  conv => lhs; arg 2; rw [← List.takeWhile_append_dropWhile (p := p) (l := l)]
  exact List.drop_left
theorem l1Put_eq {k : Nat} (l : List Int) (n : Int) (h : l.length < k) (hb : l.length ≤ 1000000) (hn : n ∉ l) (K : List Int → Option R) : spec_l1Put k l n K = K (putI n l) := by
  unfold spec_l1Put
  generalize hF : (fun (l1 : List Int) (n_2 : Int) (k_0 : Int) => _ : List Int → Int → Int → Option R) = F
  have := loop_upto (fun m i => spec_l1Put_l0 k F m l n (i : Int)) l (fun x => decide (x < n)) (fun i => F l n (i : Int)) ?_ ?_ k 0 (Nat.zero_le _) (by omega)
  · refine Eq.trans this ?_
    rw [List.drop_zero, Nat.zero_add]
    have ht := take_tw l (fun x => decide (x < n))
    have hd := drop_tw l (fun x => decide (x < n))
    have hle : (l.takeWhile (fun x => decide (x < n))).length ≤ l.length := List.Sublist.length_le (List.takeWhile_sublist _)
    obtain ⟨j, hj⟩ : ∃ j, j = (l.takeWhile (fun x => decide (x < n))).length := ⟨_, rfl⟩
    rw [← hj] at ht hd hle ⊢
    unfold putI
    rw [← ht, ← hd, ← hF]
    have e2 : List.drop j (List.take l.length l) = List.drop j l := by rw [List.take_length]
    have hj1 : (List.take j l).length = j := by rw [List.length_take]; omega
    show (bif decide ((j : Int) < (l.length : Int)) then _ else _) = _
    simp only [toNatC, List.nil_append, e2, List.drop_zero]
    have m1 : decide (0 + (List.take j l).length ≤ maxGrow) = true := decide_eq_true (by unfold maxGrow; omega)
    have m2 : decide ((List.take j l).length + [n].length ≤ maxGrow) = true := decide_eq_true (by unfold maxGrow; simp; omega)
    have m3 : decide ((List.take j l ++ [n]).length + (List.drop j l).length ≤ maxGrow) = true := decide_eq_true (by unfold maxGrow; simp; omega)
    have m4 : decide ((j : Int) ≤ (l.length : Int)) = true := decide_eq_true (by omega)
    rw [m1, m2, m3, m4, d0]
    rcases Nat.lt_or_ge j l.length with hlt | hge
    · have hne : l.getD j 0 ≠ n := by rw [getD_lt hlt]; intro e; exact hn (e ▸ List.getElem_mem hlt)
      rw [decide_eq_true (by omega : (j : Int) < (l.length : Int)), decide_eq_false hne]; rfl
    · rw [decide_eq_false (by omega : ¬ (j : Int) < (l.length : Int))]; rfl
  · intro m i hi
    show spec_l1Put_l0 k F (m + 1) l n (i : Int) = bif _ then spec_l1Put_l0 k F m l n ((i + 1 : Nat) : Int) else _
    rw [spec_l1Put_l0, dlt, d0, decide_eq_true hi, toNatC, getD_lt hi, wsucc (by omega)]
    rfl
  · intro m
    show spec_l1Put_l0 k F (m + 1) l n (l.length : Int) = _
    rw [spec_l1Put_l0, dlt, decide_eq_false (by omega)]; rfl
/-! ### the walk over a graph -/
section
variable (adj : Int → List Int) (op : Int → Bool)
def bfs1 (Q : List Int) (x : Int) : List Int := if op x = true ∧ x ∉ Q then Q ++ [x] else Q
def scanQ (Q : List Int) (c : Int) : List Int := (adj c).foldl (bfs1 op) Q
def runQ : Nat → Nat → List Int → List Int
  | 0, _, Q => Q
  | m + 1, i, Q => if i < Q.length then runQ m (i + 1) (scanQ adj op Q (Q.getD i 0)) else Q
/-- What can be reached. -/
inductive Rc (i : Int) : Int → Prop
  | refl : Rc i i
  | step {c x : Int} : Rc i c → x ∈ adj c → op x = true → Rc i x
/-- A list of places of the map, each once. -/
def okQ (N : Nat) (Q : List Int) : Prop := Q.Nodup ∧ ∀ x ∈ Q, 0 ≤ x ∧ x < (N : Int)
variable {adj op}
theorem okQ_len {N : Nat} {Q : List Int} (h : okQ N Q) : Q.length ≤ N := by
  have hs : Q ⊆ (List.range N).map fun (i : Nat) => (i : Int) := by
    intro x hx
    have := h.2 x hx
    exact List.mem_map.2 ⟨x.toNat, List.mem_range.2 (by omega), by omega⟩
  have := List.Nodup.length_le_of_subset h.1 hs
  simpa using this
theorem bfs1_ok {N : Nat} {Q : List Int} {x : Int} (h : okQ N Q) (hx : 0 ≤ x ∧ x < (N : Int)) : okQ N (bfs1 op Q x) := by
  unfold bfs1
  split
  · rename_i hn
    refine ⟨?_, ?_⟩
    · rw [List.nodup_append]
      refine ⟨h.1, by simp, ?_⟩
      intro a ha b hb
      rw [List.mem_singleton] at hb
      subst hb
      intro e; subst e; exact hn.2 ha
    · intro y hy
      rcases List.mem_append.1 hy with hy | hy
      · exact h.2 y hy
      · rw [List.mem_singleton] at hy; subst hy; exact hx
  · exact h
theorem fold_ok {N : Nat} : ∀ {l Q : List Int}, okQ N Q → (∀ x ∈ l, 0 ≤ x ∧ x < (N : Int)) → okQ N (l.foldl (bfs1 op) Q)
  | [], Q, h, _ => h
  | a :: l, Q, h, hl => fold_ok (l := l) (bfs1_ok h (hl a List.mem_cons_self)) (fun x hx => hl x (List.mem_cons_of_mem _ hx))
theorem bfs1_mem {Q : List Int} {x y : Int} : y ∈ bfs1 op Q x ↔ y ∈ Q ∨ (y = x ∧ op x = true) := by
  unfold bfs1
  split
  · rename_i h
    rw [List.mem_append, List.mem_singleton]
    exact ⟨fun h' => h'.imp id (fun e => ⟨e, h.1⟩), fun h' => h'.imp id (fun e => e.1)⟩
  · rename_i h
    refine ⟨.inl, ?_⟩
    rintro (h' | ⟨rfl, h2⟩)
    · exact h'
    · by_cases hm : y ∈ Q
      · exact hm
      · exact absurd ⟨h2, hm⟩ h
theorem fold_mem {y : Int} : ∀ {l Q : List Int}, y ∈ l.foldl (bfs1 op) Q ↔ y ∈ Q ∨ (y ∈ l ∧ op y = true)
  | [], Q => by simp
  | a :: l, Q => by
    rw [List.foldl_cons, fold_mem (l := l), bfs1_mem, List.mem_cons]
    constructor
    · rintro ((h | ⟨rfl, h⟩) | ⟨h1, h2⟩)
      · exact .inl h
      · exact .inr ⟨.inl rfl, h⟩
      · exact .inr ⟨.inr h1, h2⟩
    · rintro (h | ⟨rfl | h1, h2⟩)
      · exact .inl (.inl h)
      · exact .inl (.inr ⟨rfl, h2⟩)
      · exact .inr ⟨h1, h2⟩
theorem fold_pre : ∀ {l Q : List Int}, ∃ T, l.foldl (bfs1 op) Q = Q ++ T
  | [], Q => ⟨[], by simp⟩
  | a :: l, Q => by
    obtain ⟨T, h⟩ := fold_pre (l := l) (Q := bfs1 op Q a)
    rw [List.foldl_cons, h]
    unfold bfs1
    split
    · exact ⟨[a] ++ T, by simp⟩
    · exact ⟨T, rfl⟩
theorem scan_ok {N : Nat} (ha : ∀ c, ∀ x ∈ adj c, 0 ≤ x ∧ x < (N : Int)) {Q : List Int} {c : Int} (h : okQ N Q) : okQ N (scanQ adj op Q c) := fold_ok h (ha c)
/-- What holds of the queue. -/
structure QInv (adj : Int → List Int) (op : Int → Bool) (N : Nat) (i : Int) (n : Nat) (Q : List Int) : Prop where
  ok : okQ N Q
  le : n ≤ Q.length
  st : i ∈ Q
  rc : ∀ x ∈ Q, Rc adj op i x
  cl : ∀ j (h : j < Q.length), j < n → ∀ x ∈ adj Q[j], op x = true → x ∈ Q
theorem scan_inv {N : Nat} (ha : ∀ c, ∀ x ∈ adj c, 0 ≤ x ∧ x < (N : Int)) {i : Int} {n : Nat} {Q : List Int} (h : QInv adj op N i n Q) (hn : n < Q.length) : QInv adj op N i (n + 1) (scanQ adj op Q (Q.getD n 0)) := by
  have hq : Q.getD n 0 = Q[n] := getD_lt hn
  rw [hq]
  obtain ⟨T, hT⟩ := fold_pre (op := op) (l := adj Q[n]) (Q := Q)
  have hT : scanQ adj op Q Q[n] = Q ++ T := hT
  have hm : ∀ y, y ∈ scanQ adj op Q Q[n] ↔ y ∈ Q ∨ (y ∈ adj Q[n] ∧ op y = true) := fun y => fold_mem
  refine ⟨scan_ok ha h.ok, by rw [hT, List.length_append]; omega, (hm i).2 (.inl h.st), ?_, ?_⟩
  · intro x hx
    rcases (hm x).1 hx with hx | ⟨h1, h2⟩
    · exact h.rc x hx
    · exact .step (h.rc _ (List.getElem_mem hn)) h1 h2
  · intro j hj hjn x hx ho
    have hjQ : j < Q.length := by omega
    have e : (scanQ adj op Q Q[n])[j] = Q[j] := by
      simp only [hT]
      rw [List.getElem_append_left hjQ]
    rw [e] at hx
    rcases Nat.lt_or_ge j n with h1 | h1
    · exact (hm x).2 (.inl (h.cl j hjQ h1 x hx ho))
    · have : j = n := by omega
      subst this
      exact (hm x).2 (.inr ⟨hx, ho⟩)
theorem run_inv {N : Nat} (ha : ∀ c, ∀ x ∈ adj c, 0 ≤ x ∧ x < (N : Int)) {i : Int} : ∀ m n Q, QInv adj op N i n Q → N < m + n → QInv adj op N i (runQ adj op m n Q).length (runQ adj op m n Q)
  | 0, n, Q, h, hm => by have := okQ_len h.ok; have := h.le; omega
  | m + 1, n, Q, h, hm => by
    unfold runQ
    split
    · rename_i hn
      exact run_inv ha m (n + 1) _ (scan_inv ha h hn) (by omega)
    · rename_i hn
      have : n = Q.length := by have := h.le; omega
      subst this
      exact h
theorem QInv0 {N : Nat} {i : Int} (hi : 0 ≤ i ∧ i < (N : Int)) : QInv adj op N i 0 [i] :=
  ⟨⟨by simp, fun x hx => by rw [List.mem_singleton] at hx; subst hx; exact hi⟩, by simp, by simp, fun x hx => by rw [List.mem_singleton] at hx; subst hx; exact .refl, fun j _ h => by omega⟩
/-- The region of a place. -/
def comp (adj : Int → List Int) (op : Int → Bool) (k : Nat) (i : Int) : List Int := runQ adj op k 0 [i]
theorem comp_inv {N k : Nat} (ha : ∀ c, ∀ x ∈ adj c, 0 ≤ x ∧ x < (N : Int)) {i : Int} (hi : 0 ≤ i ∧ i < (N : Int)) (hk : N < k) : QInv adj op N i (comp adj op k i).length (comp adj op k i) := run_inv ha k 0 [i] (QInv0 hi) hk
theorem comp_mem {N k : Nat} (ha : ∀ c, ∀ x ∈ adj c, 0 ≤ x ∧ x < (N : Int)) {i : Int} (hi : 0 ≤ i ∧ i < (N : Int)) (hk : N < k) {x : Int} : x ∈ comp adj op k i ↔ Rc adj op i x := by
  have h := comp_inv (op := op) ha hi hk
  refine ⟨h.rc x, fun hr => ?_⟩
  induction hr with
  | refl => exact h.st
  | step _ h1 h2 ih =>
    obtain ⟨j, hj, rfl⟩ := List.getElem_of_mem ih
    exact h.cl j hj hj _ h1 h2
theorem Rc.trans {a b c : Int} (h1 : Rc adj op a b) (h2 : Rc adj op b c) : Rc adj op a c := by
  induction h2 with
  | refl => exact h1
  | step _ h3 h4 ih => exact .step ih h3 h4
theorem Rc.op_of {a b : Int} (h : Rc adj op a b) (ha : op a = true) : op b = true := by
  cases h with
  | refl => exact ha
  | step _ _ h => exact h
theorem Rc.symm (hs : ∀ c, op c = true → ∀ x ∈ adj c, c ∈ adj x) {a b : Int} (h : Rc adj op a b) (ha : op a = true) : Rc adj op b a := by
  induction h with
  | refl => exact .refl
  | step h1 h3 h4 ih => exact Rc.trans (.step .refl (hs _ (h1.op_of ha) _ h3) (h1.op_of ha)) ih
/-! ### the regions, one after another -/
def stepR (adj : Int → List Int) (op : Int → Bool) (k : Nat) (s : List (List Int) × List Int) (i : Int) : List (List Int) × List Int :=
  if i ∈ s.2 then s else (s.1 ++ [sortI (comp adj op k i)], s.2 ++ sortI (comp adj op k i))
/-- What holds of the regions. -/
structure RInv (adj : Int → List Int) (op : Int → Bool) (N k : Nat) (n : Nat) (l : List Int) (s : List (List Int) × List Int) : Prop where
  le1 : s.1.length ≤ n
  le2 : s.2.length ≤ N * n
  row : ∀ r ∈ s.1, ∃ j, (0 ≤ j ∧ j < (N : Int)) ∧ op j = true ∧ r = sortI (comp adj op k j)
  cl : ∀ c ∈ s.2, op c = true ∧ ∀ x ∈ adj c, op x = true → x ∈ s.2
  all : ∀ i ∈ l, ∃ r ∈ s.1, i ∈ r
  mem : ∀ i ∈ s.2, ∃ r ∈ s.1, i ∈ r
theorem RInv0 {N k : Nat} : RInv adj op N k 0 [] ([], []) := ⟨by simp, by simp, by simp, by simp, by simp, by simp⟩
theorem stepR_inv {N k n : Nat} (ha : ∀ c, ∀ x ∈ adj c, 0 ≤ x ∧ x < (N : Int)) (hk : N < k) {l : List Int} {s : List (List Int) × List Int} (h : RInv adj op N k n l s) {i : Int} (hi : 0 ≤ i ∧ i < (N : Int)) (ho : op i = true) : RInv adj op N k (n + 1) (l ++ [i]) (stepR adj op k s i) := by
  unfold stepR
  split
  · rename_i hm
    refine ⟨by have := h.le1; omega, by have := h.le2; rw [Nat.mul_add]; omega, h.row, h.cl, ?_, h.mem⟩
    intro y hy
    rcases List.mem_append.1 hy with hy | hy
    · exact h.all y hy
    · rw [List.mem_singleton] at hy; subst hy; exact h.mem _ hm
  · have hc := comp_inv (op := op) ha hi hk
    have hl := okQ_len hc.ok
    have hmem : ∀ y, y ∈ sortI (comp adj op k i) ↔ Rc adj op i y := fun y => by rw [sortI_mem, comp_mem ha hi hk]
    refine ⟨?_, ?_, ?_, ?_, ?_, ?_⟩
    · simp only [List.length_append, List.length_singleton]; have := h.le1; omega
    · simp only [List.length_append, sortI_len]; have := h.le2; rw [Nat.mul_add]; omega
    · intro r hr
      rcases List.mem_append.1 hr with hr | hr
      · exact h.row r hr
      · rw [List.mem_singleton] at hr; subst hr; exact ⟨i, hi, ho, rfl⟩
    · intro c hcm
      rcases List.mem_append.1 hcm with hcm | hcm
      · exact ⟨(h.cl c hcm).1, fun x hx hox => List.mem_append_left _ ((h.cl c hcm).2 x hx hox)⟩
      · have hr := (hmem c).1 hcm
        exact ⟨hr.op_of ho, fun x hx hox => List.mem_append_right _ ((hmem x).2 (.step hr hx hox))⟩
    · intro y hy
      rcases List.mem_append.1 hy with hy | hy
      · obtain ⟨r, hr, hy⟩ := h.all y hy
        exact ⟨r, List.mem_append_left _ hr, hy⟩
      · rw [List.mem_singleton] at hy; subst hy
        exact ⟨_, List.mem_append_right _ (List.mem_singleton.2 rfl), (hmem y).2 .refl⟩
    · intro y hy
      rcases List.mem_append.1 hy with hy | hy
      · obtain ⟨r, hr, hy⟩ := h.mem y hy
        exact ⟨r, List.mem_append_left _ hr, hy⟩
      · exact ⟨_, List.mem_append_right _ (List.mem_singleton.2 rfl), hy⟩
end
end
end Go.Lg
/- Regions of a board: what the functions answer. -/
set_option linter.unusedSimpArgs false
set_option linter.unusedVariables false
namespace Go.Lg
open Go Go.Ev
section
variable {R α σ ι : Type}
theorem has_dec (l : List Int) (n : Int) : (!l.all fun x => !decide (x = n)) = decide (n ∈ l) := by
  rw [Bool.eq_iff_iff]
  simp only [Bool.not_eq_true', List.all_eq_false, Bool.not_eq_eq_eq_not, Bool.not_true, decide_eq_true_eq, Bool.not_eq_true', decide_eq_false_iff_not, Classical.not_not]
  exact ⟨fun ⟨x, h, e⟩ => e ▸ h, fun h => ⟨n, h, rfl⟩⟩
def adjB (b : BrdT) (c : Int) : List Int := neighV b.2 c 6
def opB (b : BrdT) (kind x : Int) : Bool := (decide (0 ≤ x) && decide (x < area b)) && decide (0 < costAt b kind x)
theorem opB_in {b : BrdT} {kind x : Int} (h : 0 ≤ x ∧ x < area b) : opB b kind x = decide (0 < costAt b kind x) := by
  unfold opB; rw [decide_eq_true h.1, decide_eq_true h.2]; rfl
theorem opB_iff {b : BrdT} {kind x : Int} : opB b kind x = true ↔ (0 ≤ x ∧ x < area b) ∧ 0 < costAt b kind x := by
  unfold opB; simp only [Bool.and_eq_true, decide_eq_true_eq]
/-! ### a neighbour's neighbour -/
theorem hexAt_in {m : MapT} (hm : mapDim m) {h : Int × Int} (hb : (inB h.1 0 (m.1 - 1) && inB h.2 0 (m.2.1 - 1)) = true) : hexAt m (h.2 * m.1 + h.1) = h := by
  have hl := mul_lt_area hm hb
  simp only [Bool.and_eq_true, inB_iff] at hb
  obtain ⟨⟨h1, h2⟩, h3, h4⟩ := hb
  obtain ⟨⟨m1, m2⟩, m3, m4⟩ := hm
  unfold hexAt
  rw [Int.tmod_eq_emod_of_nonneg (by omega), Int.tdiv_eq_ediv_of_nonneg (by omega)]
  have e1 : (h.2 * m.1 + h.1) % m.1 = h.1 := by
    rw [Int.add_comm, Int.add_mul_emod_self_right]; exact Int.emod_eq_of_lt h1 (by omega)
  have e2 : (h.2 * m.1 + h.1) / m.1 = h.2 := by
    rw [Int.add_comm, Int.add_mul_ediv_right _ _ (by omega), Int.ediv_eq_zero_of_lt h1 (by omega)]; omega
  rw [e1, e2]
theorem hexAt_box {m : MapT} (hm : mapDim m) {i : Int} (hi : 0 ≤ i ∧ i < m.1 * m.2.1) : (inB (hexAt m i).1 0 (m.1 - 1) && inB (hexAt m i).2 0 (m.2.1 - 1)) = true ∧ (hexAt m i).2 * m.1 + (hexAt m i).1 = i := by
  obtain ⟨⟨m1, m2⟩, m3, m4⟩ := hm
  unfold hexAt
  rw [Int.tmod_eq_emod_of_nonneg hi.1, Int.tdiv_eq_ediv_of_nonneg hi.1]
  have e1 := Int.emod_nonneg i (by omega : m.1 ≠ 0)
  have e2 := Int.emod_lt_of_pos i (by omega : 0 < m.1)
  have e3 : 0 ≤ i / m.1 := Int.ediv_nonneg hi.1 (by omega)
  have e4 : i / m.1 < m.2.1 := Int.ediv_lt_of_lt_mul (by omega) (by rw [Int.mul_comm]; exact hi.2)
  have e5 : i / m.1 * m.1 + i % m.1 = i := by rw [Int.mul_comm]; exact Int.mul_ediv_add_emod i m.1
  refine ⟨?_, e5⟩
  simp only [Bool.and_eq_true, inB_iff]
  exact ⟨⟨e1, by omega⟩, e3, by omega⟩
def opp (d : Nat) : Nat := (d + 3) % 6
theorem step_opp (h : Int × Int) {d : Nat} (hd : d < 6) : step (step h (d : Int)) (opp d : Int) = h := by
  have : d = 0 ∨ d = 1 ∨ d = 2 ∨ d = 3 ∨ d = 4 ∨ d = 5 := by omega
  unfold step
  obtain ⟨x, y⟩ := h
  rcases this with rfl | rfl | rfl | rfl | rfl | rfl <;> (rw [toNatC, toNatC]; simp [opp, impl_directions]; try omega)
theorem nextOf_back {m : MapT} (hm : mapDim m) {i : Int} (hi : 0 ≤ i ∧ i < m.1 * m.2.1) {d : Nat} (hd : d < 6) (h : 0 ≤ nextOf m i (d : Int)) : nextOf m (nextOf m i (d : Int)) (opp d : Int) = i := by
  have hb : (inB (step (hexAt m i) (d : Int)).1 0 (m.1 - 1) && inB (step (hexAt m i) (d : Int)).2 0 (m.2.1 - 1)) = true := by
    cases hb : (inB (step (hexAt m i) (d : Int)).1 0 (m.1 - 1) && inB (step (hexAt m i) (d : Int)).2 0 (m.2.1 - 1))
    · unfold nextOf ixOf at h
      rw [hb] at h
      simp at h
    · rfl
  obtain ⟨h1, h2⟩ := hexAt_box hm hi
  have e : nextOf m i (d : Int) = (step (hexAt m i) (d : Int)).2 * m.1 + (step (hexAt m i) (d : Int)).1 := by
    unfold nextOf ixOf
    rw [hb]; rfl
  rw [e]
  show ixOf m (step (hexAt m ((step (hexAt m i) (d : Int)).2 * m.1 + (step (hexAt m i) (d : Int)).1)) (opp d : Int)) = i
  rw [hexAt_in hm hb, step_opp _ hd]
  unfold ixOf
  rw [h1]
  exact h2
theorem mem_neighV {m : MapT} {i x : Int} {n : Nat} : x ∈ neighV m i n ↔ ∃ d : Nat, d < n ∧ 0 ≤ nextOf m i (d : Int) ∧ x = nextOf m i (d : Int) := by
  constructor
  · intro h
    obtain ⟨d, h1, h2, h3⟩ := filtV_mem h
    exact ⟨d, h1, by simpa using h2, h3⟩
  · rintro ⟨d, h1, h2, rfl⟩
    unfold neighV filtV
    exact List.mem_map.2 ⟨d, List.mem_filter.2 ⟨List.mem_range.2 h1, by simpa using h2⟩, rfl⟩
section
variable {b : BrdT} (hg : goodB b = true) {kind : Int} (hk : 0 ≤ kind ∧ kind < (b.1.2.1.length : Int))
include hg
theorem adjB_in : ∀ c, ∀ x ∈ adjB b c, 0 ≤ x ∧ x < (b.2.2.2.1.length : Int) := by
  intro c x hx
  have := neighV_mem (good_dim (good_brd hg).2.1) hx
  rw [(area_ok hg).1]; exact this
theorem adjB_sym : ∀ c, opB b kind c = true → ∀ x ∈ adjB b c, c ∈ adjB b x := by
  intro c hc x hx
  have hc := (opB_iff.1 hc).1
  obtain ⟨d, h1, h2, rfl⟩ := mem_neighV.1 hx
  have := nextOf_back (good_dim (good_brd hg).2.1) hc h1 h2
  refine mem_neighV.2 ⟨opp d, by unfold opp; omega, ?_, this.symm⟩
  rw [this]; exact hc.1
include hk
theorem sReg_l0 {k q : Nat} (hq : 10 < q) (hkk : 200 < k) {Q : List Int} (hQ : okQ b.2.2.2.1.length Q) {n : Nat} (hn : n < Q.length) (K0 : Int → List Int → Int → BrdT → List Int → Option R) :
    spec_bRegion_l0 k K0 q kind (sortI Q) (n : Int) (0 : Int) b Q = K0 kind (sortI (scanQ (adjB b) (opB b kind) Q (Q.getD n 0))) (n : Int) b (scanQ (adjB b) (opB b kind) Q (Q.getD n 0)) := by
  obtain ⟨h1, h2, h3⟩ := area_ok hg
  have hm := good_dim (good_brd hg).2.1
  have hc : 0 ≤ Q.getD n 0 ∧ Q.getD n 0 < area b := by
    rw [getD_lt hn, ← h1]; exact hQ.2 _ (List.getElem_mem hn)
  unfold scanQ adjB
  refine loop_det (fun q d (s : List Int) => spec_bRegion_l0 k K0 q kind (sortI s) (n : Int) (d : Int) b s) 6 (fun d => (neighV b.2 (Q.getD n 0) d).foldl (bfs1 (opB b kind)) Q) _ ?_ ?_ q 0 (by omega) (by omega)
  · intro q d hd
    have hr := nextOf_lt hm (Q.getD n 0) (d : Int)
    have hok : okQ b.2.2.2.1.length ((neighV b.2 (Q.getD n 0) d).foldl (bfs1 (opB b kind)) Q) := fold_ok hQ (fun x hx => by have := neighV_mem hm hx; rw [h1]; exact this)
    obtain ⟨T, hT⟩ := fold_pre (op := opB b kind) (l := neighV b.2 (Q.getD n 0) d) (Q := Q)
    have hget : ((neighV b.2 (Q.getD n 0) d).foldl (bfs1 (opB b kind)) Q).getD n 0 = Q.getD n 0 := by
      rw [hT, getD_lt (by rw [List.length_append]; omega), getD_lt hn, List.getElem_append_left hn]
    have hlen : n < ((neighV b.2 (Q.getD n 0) d).foldl (bfs1 (opB b kind)) Q).length := by rw [hT, List.length_append]; omega
    have e : (neighV b.2 (Q.getD n 0) (d + 1)).foldl (bfs1 (opB b kind)) Q = if 0 ≤ nextOf b.2 (Q.getD n 0) (d : Int) then bfs1 (opB b kind) ((neighV b.2 (Q.getD n 0) d).foldl (bfs1 (opB b kind)) Q) (nextOf b.2 (Q.getD n 0) (d : Int)) else (neighV b.2 (Q.getD n 0) d).foldl (bfs1 (opB b kind)) Q := by
      unfold neighV
      rw [filtV_succ]
      by_cases h : 0 ≤ nextOf b.2 (Q.getD n 0) (d : Int)
      · rw [decide_eq_true h, if_pos rfl, if_pos h, List.foldl_append]; rfl
      · rw [decide_eq_false h, if_neg (by simp), if_neg h]
    show spec_bRegion_l0 k K0 (q + 1) kind (sortI ((neighV b.2 (Q.getD n 0) d).foldl (bfs1 (opB b kind)) Q)) (n : Int) (d : Int) b ((neighV b.2 (Q.getD n 0) d).foldl (bfs1 (opB b kind)) Q) = spec_bRegion_l0 k K0 q kind (sortI ((neighV b.2 (Q.getD n 0) (d + 1)).foldl (bfs1 (opB b kind)) Q)) (n : Int) ((d + 1 : Nat) : Int) b ((neighV b.2 (Q.getD n 0) (d + 1)).foldl (bfs1 (opB b kind)) Q)
    rw [e]
    generalize (neighV b.2 (Q.getD n 0) d).foldl (bfs1 (opB b kind)) Q = S at *
    have hSl := okQ_len hok
    rw [spec_bRegion_l0, decide_eq_true (by omega : (d : Int) < 6), cond_true, d0, dlt, decide_eq_true hlen, toNatC, hget, mNext_eq hm (by omega) (by omega), wsucc (by omega)]
    generalize hR : nextOf b.2 (Q.getD n 0) (d : Int) = r at *
    by_cases h : 0 ≤ r
    · have hin : 0 ≤ r ∧ r < area b := ⟨h, hr.2⟩
      rw [decide_eq_true h, if_pos h, Bool.and_self, cond_true, cond_true, bCost_eq hg hin hk]
      unfold bfs1
      rw [opB_in hin]
      by_cases hcost : 0 < costAt b kind r
      · rw [decide_eq_true hcost, cond_true, l1Has_eq _ _ (by rw [sortI_len]; omega) (by rw [sortI_len]; omega), has_dec]
        by_cases hmem : r ∈ S
        · rw [decide_eq_true (sortI_mem.2 hmem), if_neg (fun h => h.2 hmem)]; rfl
        · have hmem' : r ∉ sortI S := fun h => hmem (sortI_mem.1 h)
          rw [decide_eq_false hmem', if_pos ⟨rfl, hmem⟩, Bool.not_false, cond_true, l1Put_eq _ _ (by rw [sortI_len]; omega) (by rw [sortI_len]; omega) hmem', putI_sort, decide_eq_true (by unfold maxGrow; simp; omega)]
          rfl
      · rw [decide_eq_false hcost, if_neg (fun h => by cases h.1)]; rfl
    · rw [decide_eq_false h, if_neg h]; rfl
  · intro q
    show spec_bRegion_l0 k K0 (q + 1) kind _ (n : Int) ((6 : Nat) : Int) b _ = _
    rw [spec_bRegion_l0, decide_eq_false (by omega)]; rfl
theorem sReg_l1 {k : Nat} (hkk : 200 < k) {i : Int} (K0 : List Int → Option R) : ∀ m n Q, QInv (adjB b) (opB b kind) b.2.2.2.1.length i n Q → b.2.2.2.1.length < m + n →
    spec_bRegion_l1 k K0 m kind (sortI Q) (n : Int) b Q = K0 (sortI (runQ (adjB b) (opB b kind) m n Q))
  | 0, n, Q, h, hm => by have := okQ_len h.ok; have := h.le; omega
  | m + 1, n, Q, h, hm => by
    obtain ⟨h1, h2, h3⟩ := area_ok hg
    have hl := okQ_len h.ok
    have hle := h.le
    rw [spec_bRegion_l1]
    unfold runQ
    by_cases hn : n < Q.length
    · rw [dlt, decide_eq_true hn, cond_true, if_pos hn, sReg_l0 hg hk (by omega) hkk h.ok hn, wsucc (by omega)]
      exact sReg_l1 hkk K0 m (n + 1) _ (scan_inv (adjB_in hg) h hn) (by omega)
    · rw [dlt, decide_eq_false hn, if_neg hn]; rfl
theorem bRegion_eq {k : Nat} (hkk : 200 < k) {i : Int} (hi : 0 ≤ i ∧ i < area b) (K : List Int → Option R) : spec_bRegion k b kind i K = K (sortI (comp (adjB b) (opB b kind) k i)) := by
  obtain ⟨h1, h2, h3⟩ := area_ok hg
  unfold spec_bRegion comp
  have e : [i] = sortI [i] := (sortI_uniq (by simp) (List.Perm.refl _)).symm
  have := sReg_l1 hg hk hkk (fun x => K x) k 0 [i] (QInv0 (by rw [h1]; exact hi)) (by omega)
  rw [← e] at this
  exact this
end
/-! ### the marks of what was seen -/
def seenV (N : Nat) (S : List Int) : List Bool := (List.range N).map fun (i : Nat) => decide ((i : Int) ∈ S)
theorem seenV_len (N : Nat) (S : List Int) : (seenV N S).length = N := by simp [seenV]
theorem seenV_get {N : Nat} {S : List Int} {x : Int} (hx : 0 ≤ x ∧ x < (N : Int)) : List.getD (seenV N S) (Int.toNat x) false = decide (x ∈ S) := by
  rw [getD_lt (by rw [seenV_len]; omega)]
  unfold seenV
  rw [List.getElem_map, List.getElem_range]
  rw [show ((x.toNat : Nat) : Int) = x by omega]
theorem seenV_congr {N : Nat} {S T : List Int} (h : ∀ x, x ∈ S ↔ x ∈ T) : seenV N S = seenV N T := by
  unfold seenV
  exact List.map_congr_left fun i _ => by rw [decide_eq_decide]; exact h _
theorem seenV_set {N : Nat} {S : List Int} {x : Int} (hx : 0 ≤ x ∧ x < (N : Int)) : List.set (seenV N S) (Int.toNat x) true = seenV N (S ++ [x]) := by
  refine List.ext_getElem (by simp [seenV]) ?_
  intro j h1 h2
  rw [List.getElem_set]
  simp only [seenV, List.getElem_map, List.getElem_range]
  split
  · rename_i h
    subst h
    have : ((x.toNat : Nat) : Int) = x := by omega
    rw [this]; simp
  · rename_i h
    rw [decide_eq_decide, List.mem_append, List.mem_singleton]
    exact ⟨.inl, fun h' => h'.elim id (fun e => by omega)⟩
theorem seenV_nil (N : Nat) : List.replicate N false = seenV N [] := by
  refine List.ext_getElem (by simp [seenV]) ?_
  intro j h1 h2
  simp [seenV]
section
variable {b : BrdT} (hg : goodB b = true) {kind : Int} (hk : 0 ≤ kind ∧ kind < (b.1.2.1.length : Int))
include hg hk
theorem iReg_l0 {k q : Nat} (hq : 10 < q) (D : List Int) (x18 x19 x20 : Int) (x25 : List (List Int)) (x28 : List Int) {Q : List Int} (hQ : okQ b.2.2.2.1.length Q) {c : Int} (hc : 0 ≤ c ∧ c < area b) (hD : ∀ x ∈ adjB b c, opB b kind x = true → x ∉ D)
    (K0 : Int → Int → Int → Int → BrdT → List (List Int) → List Bool → List Int → List Int → Option R) :
    impl_regionsOf_l0 k K0 q kind x18 x19 x20 (neighV b.2 c 6) ((neighV b.2 c 6).length : Int) (0 : Int) b x25 (seenV b.2.2.2.1.length (D ++ Q)) Q x28
      = K0 kind x18 x19 x20 b x25 (seenV b.2.2.2.1.length (D ++ scanQ (adjB b) (opB b kind) Q c)) (scanQ (adjB b) (opB b kind) Q c) x28 := by
  obtain ⟨h1, h2, h3⟩ := area_ok hg
  have hm := good_dim (good_brd hg).2.1
  have hl6 : (neighV b.2 c 6).length ≤ 6 := filtV_len _ _ _
  refine loop_det (fun q j (s : List Int) => impl_regionsOf_l0 k K0 q kind x18 x19 x20 (neighV b.2 c 6) ((neighV b.2 c 6).length : Int) (j : Int) b x25 (seenV b.2.2.2.1.length (D ++ s)) s x28) (neighV b.2 c 6).length (fun j => ((neighV b.2 c 6).take j).foldl (bfs1 (opB b kind)) Q) _ ?_ ?_ q 0 (by omega) (by omega)
  · intro q j hj
    have hok : okQ b.2.2.2.1.length (((neighV b.2 c 6).take j).foldl (bfs1 (opB b kind)) Q) := fold_ok hQ (fun x hx => by have := neighV_mem hm (List.mem_of_mem_take hx); rw [h1]; exact this)
    have hin := neighV_mem hm (List.getElem_mem hj)
    have hin' : 0 ≤ (neighV b.2 c 6)[j] ∧ (neighV b.2 c 6)[j] < area b := hin
    have hDj := hD _ (List.getElem_mem hj)
    have e : ((neighV b.2 c 6).take (j + 1)).foldl (bfs1 (opB b kind)) Q = bfs1 (opB b kind) (((neighV b.2 c 6).take j).foldl (bfs1 (opB b kind)) Q) (neighV b.2 c 6)[j] := by
      rw [List.take_succ_eq_append_getElem hj, List.foldl_append]; rfl
    show impl_regionsOf_l0 k K0 (q + 1) kind x18 x19 x20 (neighV b.2 c 6) _ (j : Int) b x25 (seenV b.2.2.2.1.length (D ++ ((neighV b.2 c 6).take j).foldl (bfs1 (opB b kind)) Q)) (((neighV b.2 c 6).take j).foldl (bfs1 (opB b kind)) Q) x28
      = impl_regionsOf_l0 k K0 q kind x18 x19 x20 (neighV b.2 c 6) _ ((j + 1 : Nat) : Int) b x25 (seenV b.2.2.2.1.length (D ++ ((neighV b.2 c 6).take (j + 1)).foldl (bfs1 (opB b kind)) Q)) (((neighV b.2 c 6).take (j + 1)).foldl (bfs1 (opB b kind)) Q) x28
    rw [e]
    generalize ((neighV b.2 c 6).take j).foldl (bfs1 (opB b kind)) Q = S at *
    have hSl := okQ_len hok
    rw [impl_regionsOf_l0, dlt, d0, decide_eq_true hj, toNatC, getD_lt hj, seenV_len, wsucc (by omega)]
    generalize (neighV b.2 c 6)[j] = r at *
    have hr : 0 ≤ r ∧ r < (b.2.2.2.1.length : Int) := by rw [h1]; exact hin'
    rw [decide_eq_true hr.1, decide_eq_true hr.2, seenV_get hr, enterCost_eq hg hin' hk, seenV_set hr]
    have hcost := costAt_ok hg hin' hk
    unfold bfs1
    rw [opB_in hin'] at hDj ⊢
    have hgrow : decide (S.length + [r].length ≤ maxGrow) = true := decide_eq_true (by unfold maxGrow; simp; omega)
    rw [hgrow]
    by_cases hc0 : 0 < costAt b kind r
    · have hnD := hDj (decide_eq_true hc0)
      by_cases hmS : r ∈ S
      · rw [if_neg (fun h => h.2 hmS), decide_eq_true (List.mem_append_right _ hmS)]; rfl
      · rw [if_pos ⟨decide_eq_true hc0, hmS⟩, decide_eq_false (by rw [List.mem_append]; exact fun h => h.elim hnD hmS), decide_eq_false (by omega), List.append_assoc]; rfl
    · rw [if_neg (fun h => hc0 (by simpa using h.1)), decide_eq_true (by omega : costAt b kind r = 0)]
      cases decide (r ∈ D ++ S) <;> rfl
  · intro q
    show impl_regionsOf_l0 k K0 (q + 1) kind x18 x19 x20 (neighV b.2 c 6) ((neighV b.2 c 6).length : Int) ((neighV b.2 c 6).length : Int) b x25 _ _ x28 = _
    rw [impl_regionsOf_l0, dlt, decide_eq_false (by omega), List.take_length]; rfl
theorem iReg_l1 {k : Nat} (hkk : 200 < k) {i : Int} (hi : opB b kind i = true) (D : List Int) (hiD : i ∉ D) (hD : ∀ c ∈ D, opB b kind c = true ∧ ∀ x ∈ adjB b c, opB b kind x = true → x ∈ D) (x10 x11 : Int) (x13 : List (List Int)) (x16 : List Int)
    (K0 : Int → Int → Int → BrdT → List (List Int) → List Bool → List Int → List Int → Option R) : ∀ m n Q, QInv (adjB b) (opB b kind) b.2.2.2.1.length i n Q → b.2.2.2.1.length < m + n →
    impl_regionsOf_l1 k K0 m kind (n : Int) x10 x11 b x13 (seenV b.2.2.2.1.length (D ++ Q)) Q x16 = K0 kind x10 x11 b x13 (seenV b.2.2.2.1.length (D ++ runQ (adjB b) (opB b kind) m n Q)) (runQ (adjB b) (opB b kind) m n Q) x16
  | 0, n, Q, h, hm => by have := okQ_len h.ok; have := h.le; omega
  | m + 1, n, Q, h, hm => by
    obtain ⟨h1, h2, h3⟩ := area_ok hg
    have hl := okQ_len h.ok
    have hle := h.le
    rw [impl_regionsOf_l1]
    unfold runQ
    by_cases hn : n < Q.length
    · have hcin : 0 ≤ Q.getD n 0 ∧ Q.getD n 0 < area b := by
        rw [getD_lt hn, ← h1]; exact h.ok.2 _ (List.getElem_mem hn)
      have hrc : Rc (adjB b) (opB b kind) i (Q.getD n 0) := by rw [getD_lt hn]; exact h.rc _ (List.getElem_mem hn)
      have hco := hrc.op_of hi
      have hcD : Q.getD n 0 ∉ D := by
        intro hc
        have hback := hrc.symm (adjB_sym hg) hi
        have : ∀ {y}, Rc (adjB b) (opB b kind) (Q.getD n 0) y → y ∈ D := by
          intro y hy
          induction hy with
          | refl => exact hc
          | step _ g1 g2 ih => exact (hD _ ih).2 _ g1 g2
        exact hiD (this hback)
      have hDx : ∀ x ∈ adjB b (Q.getD n 0), opB b kind x = true → x ∉ D := by
        intro x hx hox hxD
        exact hcD ((hD x hxD).2 _ (adjB_sym hg _ hco x hx) hco)
      rw [dlt, decide_eq_true hn, cond_true, d0, if_pos hn, toNatC, Bool.and_self, cond_true, neighboursOn_eq (by omega) (good_dim (good_brd hg).2.1) (by omega), iReg_l0 hg hk (by omega) D _ _ _ _ _ h.ok hcin hDx, wsucc (by omega)]
      exact iReg_l1 hkk hi D hiD hD x10 x11 x13 x16 K0 m (n + 1) _ (scan_inv (adjB_in hg) h hn) (by omega)
    · rw [dlt, decide_eq_false hn, if_neg hn]; rfl
def regsV (b : BrdT) (kind : Int) (k n : Nat) : List (List Int) × List Int := ((openV b kind b.2.2.2.1.length).take n).foldl (stepR (adjB b) (opB b kind) k) ([], [])
theorem openV_op {i : Nat} (hi : i < (openV b kind b.2.2.2.1.length).length) : (0 ≤ (openV b kind b.2.2.2.1.length)[i] ∧ (openV b kind b.2.2.2.1.length)[i] < (b.2.2.2.1.length : Int)) ∧ opB b kind (openV b kind b.2.2.2.1.length)[i] = true := by
  obtain ⟨h1, h2, h3⟩ := area_ok hg
  have := openV_mem (List.getElem_mem hi)
  exact ⟨⟨this.1, this.2.1⟩, opB_iff.2 ⟨⟨this.1, by omega⟩, this.2.2⟩⟩
theorem regsV_inv {k : Nat} (hkk : 200 < k) : ∀ n, n ≤ (openV b kind b.2.2.2.1.length).length → RInv (adjB b) (opB b kind) b.2.2.2.1.length k n ((openV b kind b.2.2.2.1.length).take n) (regsV b kind k n)
  | 0, _ => by unfold regsV; rw [List.take_zero]; exact RInv0
  | n + 1, h => by
    obtain ⟨h1, h2, h3⟩ := area_ok hg
    have ho := openV_op hg hk (i := n) (by omega)
    have := stepR_inv (adjB_in hg) (by omega) (regsV_inv hkk n (by omega)) ho.1 ho.2
    unfold regsV at *
    rw [List.take_succ_eq_append_getElem (by omega), List.foldl_append]
    exact this
theorem regsV_succ {k n : Nat} (hn : n < (openV b kind b.2.2.2.1.length).length) : regsV b kind k (n + 1) = stepR (adjB b) (opB b kind) k (regsV b kind k n) (openV b kind b.2.2.2.1.length)[n] := by
  unfold regsV
  rw [List.take_succ_eq_append_getElem hn, List.foldl_append]; rfl
theorem iReg_l2 {k : Nat} (hkk : 200 < k) (K0 : List (List Int) → Option R) : impl_regionsOf_l2 k K0 k kind ((openV b kind b.2.2.2.1.length).length : Int) (0 : Int) b [] (seenV b.2.2.2.1.length []) (openV b kind b.2.2.2.1.length) = K0 (regsV b kind k (openV b kind b.2.2.2.1.length).length).1 := by
  obtain ⟨h1, h2, h3⟩ := area_ok hg
  have hlo := openV_len b kind b.2.2.2.1.length
  refine loop_det (fun q j (s : List (List Int) × List Int) => impl_regionsOf_l2 k K0 q kind ((openV b kind b.2.2.2.1.length).length : Int) (j : Int) b s.1 (seenV b.2.2.2.1.length s.2) (openV b kind b.2.2.2.1.length)) (openV b kind b.2.2.2.1.length).length (fun j => regsV b kind k j) _ ?_ ?_ k 0 (by omega) (by omega)
  · intro q j hj
    have hI := regsV_inv hg hk hkk j (by omega)
    obtain ⟨hin, hop⟩ := openV_op hg hk hj
    show impl_regionsOf_l2 k K0 (q + 1) kind _ (j : Int) b (regsV b kind k j).1 (seenV b.2.2.2.1.length (regsV b kind k j).2) (openV b kind b.2.2.2.1.length) = impl_regionsOf_l2 k K0 q kind _ ((j + 1 : Nat) : Int) b (regsV b kind k (j + 1)).1 (seenV b.2.2.2.1.length (regsV b kind k (j + 1)).2) (openV b kind b.2.2.2.1.length)
    rw [regsV_succ hg hk hj]
    generalize regsV b kind k j = s at *
    obtain ⟨out, D⟩ := s
    rw [impl_regionsOf_l2, dlt, d0, decide_eq_true hj, toNatC, getD_lt hj, seenV_len, wsucc (by omega)]
    generalize (openV b kind b.2.2.2.1.length)[j] = i at *
    rw [decide_eq_true hin.1, decide_eq_true hin.2, seenV_get hin, seenV_set hin]
    unfold stepR
    by_cases hmem : i ∈ D
    · rw [decide_eq_true hmem, if_pos hmem]; rfl
    · have hq := iReg_l1 (R := R) hg hk hkk hop D hmem hI.cl ((openV b kind b.2.2.2.1.length).length : Int) (j : Int) out (openV b kind b.2.2.2.1.length)
      have hl1 : out.length ≤ j := hI.le1
      have hlc := okQ_len (comp_inv (op := opB b kind) (k := k) (adjB_in hg) hin (by omega)).ok
      have hsort : ∀ (K : List Int → Option R), slices_Sort (comp (adjB b) (opB b kind) k i) K = K (sortI (comp (adjB b) (opB b kind) k i)) := fun K => by
        unfold slices_Sort; rw [decide_eq_true (by omega)]; rfl
      rw [decide_eq_false hmem, if_neg hmem]
      show impl_regionsOf_l1 k _ k kind ((0 : Nat) : Int) _ _ b out (seenV b.2.2.2.1.length (D ++ [i])) [i] _ = _
      rw [hq _ k 0 [i] (QInv0 hin) (by omega)]
      show slices_Sort (comp (adjB b) (opB b kind) k i) _ = _
      rw [hsort, decide_eq_true (by unfold maxGrow; simp; omega), cond_true, wsucc (by omega)]
      show impl_regionsOf_l2 k K0 q kind _ _ b _ (seenV _ (D ++ comp (adjB b) (opB b kind) k i)) _ = impl_regionsOf_l2 k K0 q kind _ _ b _ (seenV _ (D ++ sortI (comp (adjB b) (opB b kind) k i))) _
      rw [seenV_congr (S := D ++ comp (adjB b) (opB b kind) k i) (T := D ++ sortI (comp (adjB b) (opB b kind) k i)) (fun x => by rw [List.mem_append, List.mem_append, sortI_mem])]
  · intro q
    show impl_regionsOf_l2 k K0 (q + 1) kind ((openV b kind b.2.2.2.1.length).length : Int) ((openV b kind b.2.2.2.1.length).length : Int) b _ _ _ = _
    rw [impl_regionsOf_l2, dlt, decide_eq_false (by omega)]; rfl
def regs (b : BrdT) (kind : Int) (k : Nat) : List (List Int) := (regsV b kind k (openV b kind b.2.2.2.1.length).length).1
theorem regionsOf_eq {k : Nat} (hkk : 200 < k) (K : List (List Int) → Option R) : impl_regionsOf k b kind K = K (regs b kind k) := by
  obtain ⟨h1, h2, h3⟩ := area_ok hg
  unfold impl_regionsOf
  rw [sizeOf_eq, d0, decide_eq_true (by omega : (b.2.2.2.1.length : Int) ≤ 137438953472), decide_eq_true rfl, openHexes_eq hg hk hkk, toNatC, seenV_nil]
  exact iReg_l2 hg hk hkk _
theorem sRegs_eq {k : Nat} (hkk : 20000 < k) (K : List (List Int) → Option R) : spec_RegionsOf_l0 k K k kind (openV b kind b.2.2.2.1.length) ((openV b kind b.2.2.2.1.length).length : Int) (0 : Int) b [] [] = K (regs b kind k) := by
  obtain ⟨h1, h2, h3⟩ := area_ok hg
  have hlo := openV_len b kind b.2.2.2.1.length
  refine loop_det (fun q j (s : List (List Int) × List Int) => spec_RegionsOf_l0 k K q kind (openV b kind b.2.2.2.1.length) ((openV b kind b.2.2.2.1.length).length : Int) (j : Int) b s.1 s.2) (openV b kind b.2.2.2.1.length).length (fun j => regsV b kind k j) _ ?_ ?_ k 0 (by omega) (by omega)
  · intro q j hj
    have hI := regsV_inv hg hk (k := k) (by omega) j (by omega)
    obtain ⟨hin, hop⟩ := openV_op hg hk hj
    show spec_RegionsOf_l0 k K (q + 1) kind (openV b kind b.2.2.2.1.length) _ (j : Int) b (regsV b kind k j).1 (regsV b kind k j).2 = spec_RegionsOf_l0 k K q kind (openV b kind b.2.2.2.1.length) _ ((j + 1 : Nat) : Int) b (regsV b kind k (j + 1)).1 (regsV b kind k (j + 1)).2
    rw [regsV_succ hg hk hj]
    generalize regsV b kind k j = s at *
    obtain ⟨out, D⟩ := s
    have hl1 : out.length ≤ j := hI.le1
    have hl2 : D.length ≤ b.2.2.2.1.length * j := hI.le2
    have : b.2.2.2.1.length * j ≤ 100 * 100 := Nat.mul_le_mul (by omega) (by omega)
    show spec_RegionsOf_l0 k K (q + 1) kind (openV b kind b.2.2.2.1.length) _ (j : Int) b out D = _
    rw [spec_RegionsOf_l0, dlt, d0, decide_eq_true hj, toNatC, getD_lt hj, wsucc (by omega)]
    generalize (openV b kind b.2.2.2.1.length)[j] = i at *
    have hlc := okQ_len (comp_inv (op := opB b kind) (k := k) (adjB_in hg) hin (by omega)).ok
    have hl3 := sortI_len (comp (adjB b) (opB b kind) k i)
    unfold stepR
    rw [Bool.and_self, cond_true, cond_true, l1Has_eq _ _ (by omega) (by omega), has_dec]
    by_cases hmem : i ∈ D
    · rw [decide_eq_true hmem, if_pos hmem]; rfl
    · rw [decide_eq_false hmem, if_neg hmem, cond_false, bRegion_eq hg hk (by omega) (by omega), decide_eq_true (by unfold maxGrow; omega), decide_eq_true (by unfold maxGrow; simp; omega)]
      rfl
  · intro q
    show spec_RegionsOf_l0 k K (q + 1) kind (openV b kind b.2.2.2.1.length) ((openV b kind b.2.2.2.1.length).length : Int) ((openV b kind b.2.2.2.1.length).length : Int) b _ _ = _
    rw [spec_RegionsOf_l0, dlt, decide_eq_false (by omega)]; rfl
end
end
end Go.Lg
/- Regions of a board: the laws. -/
set_option linter.unusedSimpArgs false
set_option linter.unusedVariables false
namespace Go.Lg
open Go Go.Ev
section
variable {R α σ ι : Type}
theorem heldIntSS_eq {k : Nat} (a : List (List Int)) (hc : cS cI a ≤ 1000000) (hl : a.length < k) (hb : a.length ≤ 137438953472) (hx : ∀ x ∈ a, x.length < k ∧ x.length ≤ 137438953472) (K : Int → Option R) : laws_heldIntSS k (fS fI cI 1 a) 1 K = K (1 + (cS cI a : Int)) := by
  unfold laws_heldIntSS
  have hlf := fS_len fI cI 1 a
  refine loop_held fI cI (fS fI cI 1 a) (fun m k1 i => laws_heldIntSS_l0 k (fun x => K x) (fun x => K x) m (fS fI cI 1 a) k1 (i : Int)) (fun k1 => K k1) (fun x => x.length < k ∧ x.length ≤ 137438953472) (by omega) ?_ ?_ k [] a 1 rfl hx (by omega) (by omega) hl
  · intro m k1 x pre r hx h0 h1 e
    have hlen : (fS fI cI 1 a).length = pre.length + (fI k1 x :: r).length := by rw [e]; exact List.length_append
    have hpos : pre.length < pre.length + (fI k1 x :: r).length := by simp
    show laws_heldIntSS_l0 k _ _ (m + 1) (fS fI cI 1 a) k1 (pre.length : Int) = laws_heldIntSS_l0 k _ _ m (fS fI cI 1 a) (k1 + (cI x : Nat)) ((pre.length + 1 : Nat) : Int)
    rw [laws_heldIntSS_l0, hlen, dlt, d0, decide_eq_true hpos, toNatC, wsucc (by omega)]
    have eg : (fS fI cI 1 a).getD pre.length [] = fI k1 x := by rw [e]; exact getD_at rfl
    unfold cI at h1
    rw [eg]
    unfold fI
    rw [heldIntS_k k1 x.length ⟨h0, by omega⟩ hx.1 hx.2, decide_eq_false (by omega)]
    rfl
  · intro m k1
    show laws_heldIntSS_l0 k _ _ (m + 1) (fS fI cI 1 a) k1 ((fS fI cI 1 a).length : Int) = _
    rw [laws_heldIntSS_l0, dlt, decide_eq_false (by omega)]; rfl
/-- A list of lists that is small. -/
def smallRg (v : List (List Int)) : Prop := v.length ≤ 100 ∧ ∀ r ∈ v, r.length ≤ 100
theorem smallRg_c {v : List (List Int)} (h : smallRg v) : cS cI v ≤ 10000 := by
  have h1 := cS_bound cI 100 v h.2
  have h2 : 100 * v.length ≤ 100 * 100 := Nat.mul_le_mul_left _ h.1
  omega
section
variable {b : BrdT} (hg : goodB b = true) {kind : Int} (hk : 0 ≤ kind ∧ kind < (b.1.2.1.length : Int))
include hg hk
theorem regs_inv {k : Nat} (hkk : 200 < k) : RInv (adjB b) (opB b kind) b.2.2.2.1.length k (openV b kind b.2.2.2.1.length).length (openV b kind b.2.2.2.1.length) (regsV b kind k (openV b kind b.2.2.2.1.length).length) := by
  have := regsV_inv hg hk hkk _ (Nat.le_refl _)
  rwa [List.take_length] at this
theorem regs_sml {k : Nat} (hkk : 200 < k) : smallRg (regs b kind k) := by
  obtain ⟨h1, h2, h3⟩ := area_ok hg
  have h := regs_inv hg hk hkk
  have hlo := openV_len b kind b.2.2.2.1.length
  refine ⟨by have h4 : (regs b kind k).length ≤ _ := h.le1; omega, fun r hr => ?_⟩
  obtain ⟨j, hj, _, rfl⟩ := h.row r hr
  have hlc := okQ_len (comp_inv (op := opB b kind) (k := k) (adjB_in hg) hj (by omega)).ok
  rw [sortI_len]; omega
end
theorem Regions_same {b : BrdT} (hs : smallB b) (kind : Int) : ∃ (v : List (List Int)) (c : Bool), smallRg v ∧ (∀ {R : Type} (K : List (List Int) → Bool → Option R), spec_RegionsOf 4194304 b kind K = K v c) ∧ ∀ {R : Type} (K : List (List Int) → Bool → Option R), impl_RegionsOf 4194304 b kind K = K v c := by
  cases hp : kindB b kind
  · exact ⟨[], false, ⟨by simp, by simp⟩, fun K => by unfold spec_RegionsOf; rw [bAt_eq hs, bAtB_0, hp]; rfl, fun K => by unfold impl_RegionsOf; rw [isKindOf_eq hs, hp]; rfl⟩
  · obtain ⟨hg, hk⟩ := kindB_iff hp
    refine ⟨regs b kind 4194304, true, regs_sml hg hk (by omega), fun K => ?_, fun K => ?_⟩
    · unfold spec_RegionsOf
      rw [bAt_eq hs, bAtB_0, hp, Bool.not_true, cond_false, bOpen_eq hg hk (by omega)]
      exact sRegs_eq hg hk (by omega) _
    · unfold impl_RegionsOf
      rw [isKindOf_eq hs, hp, Bool.not_true, cond_false, regionsOf_eq hg hk (by omega)]
theorem law_FnExactRegionsOf (b : BrdT) (w : Wf BrdTy b) (kind : Int) (w2 : Wf (.int .i64) kind) (K : Bool → Option R) : laws_FnExactRegionsOf 4194304 b kind K = K true := by
  unfold laws_FnExactRegionsOf
  obtain ⟨r, e0, h⟩ := szBoard_ret w
  rw [e0]
  rcases h with rfl | ⟨hl, hs⟩
  · rfl
  · obtain ⟨v, c, hv, e1, e2⟩ := Regions_same hs kind
    have hc := cB_le hs
    have hcv := smallRg_c hv
    have hvl := hv.1
    have hx : ∀ x ∈ v, x.length < 4194304 ∧ x.length ≤ 137438953472 := fun x hx => by have := hv.2 x hx; omega
    rw [decide_eq_false (by have := hl.1; omega), cond_false, toBrd_eq hs, e1, toBrd_eq hs, e2, eqIntSS_self _ (by omega) (by omega) hx, toBrd_eq hs, eqBrd_self hs, markBoard_eq hs, decide_eq_false (by omega : ¬ (1 + cB b < 0)), eqIntSS_self _ (by omega) (by omega) hx, markIntSS_k _ _ (by omega) (by omega) (by omega) (by omega) hx, heldIntSS_eq _ (by omega) (by omega) (by omega) hx, decide_eq_false (by omega), decide_eq_true rfl, toBrd_eq hs, e2, eqIntSS_self _ (by omega) (by omega) hx, heldIntSS_eq _ (by omega) (by omega) (by omega) hx, decide_eq_false (by omega), decide_eq_true rfl]
    simp
/-! ### two places in one region -/
end
end Go.Lg
