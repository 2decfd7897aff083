/- Rules: what the functions answer; their laws. -/
import Derived.Test.YtbfbeaghmlkjkaaDoorLgDTALBLBMCLCM
set_option linter.unusedVariables false
set_option linter.unusedSimpArgs false
set_option linter.unusedSectionVars false
set_option linter.unusedSimpArgs false
set_option linter.unusedVariables false
namespace Go.Lg
open Go Go.Ev
section
variable {R α : Type}
abbrev TerT := ByteArray × (List Int) × Int × Int × Bool
abbrev KndT := ByteArray × Int × Int × Int × Bool × Int
abbrev RulT := (List TerT) × (List KndT) × Int × Int × Int × Int × Int
abbrev TerTy : Ty := .st (.pair .str (.pair (.sl (.int .i64)) (.pair (.int .i64) (.pair (.int .i64) .bool))))
abbrev KndTy : Ty := .st (.pair .str (.pair (.int .i64) (.pair (.int .i64) (.pair (.int .i64) (.pair .bool (.int .i64))))))
abbrev RulTy : Ty := .st (.pair (.sl TerTy) (.pair (.sl KndTy) (.pair (.int .i64) (.pair (.int .i64) (.pair (.int .i64) (.pair (.int .i64) (.int .i64)))))))
theorem wfStr {s : ByteArray} (w : Wf .str s) : s.size ≤ 9223372036854775807 := by
  have : maxLen = 9223372036854775807 := by decide
  have h : s.size ≤ maxLen := w
  omega
def wideR (r : RulT) : Prop := r.1.length ≤ 9223372036854775807 ∧ r.2.1.length ≤ 9223372036854775807 ∧ (∀ t ∈ r.1, t.1.size ≤ 9223372036854775807 ∧ t.2.1.length ≤ 9223372036854775807) ∧ ∀ t ∈ r.2.1, t.1.size ≤ 9223372036854775807
theorem wfRul {r : RulT} (w : Wf RulTy r) : wideR r := by
  obtain ⟨w1, w2, _⟩ := w
  refine ⟨(wfSl w1).1, (wfSl w2).1, fun t ht => ?_, fun t ht => ?_⟩
  · obtain ⟨g1, g2, _⟩ := (wfSl w1).2 t ht
    exact ⟨wfStr g1, (wfSl g2).1⟩
  · obtain ⟨g1, _⟩ := (wfSl w2).2 t ht
    exact wfStr g1
def smallR (r : RulT) : Prop := r.1.length ≤ 1048576 ∧ r.2.1.length ≤ 1048576 ∧ (∀ t ∈ r.1, t.1.size ≤ 1048576 ∧ t.2.1.length ≤ 1048576) ∧ ∀ t ∈ r.2.1, t.1.size ≤ 1048576
/-! ### sizes -/
def szTe (t : TerT) (left : Int) : Int := if szI t.1.size left < 0 then -1 else szI t.2.1.length (szI t.1.size left)
theorem szTe_b (t : TerT) (left : Int) (hl : inL left) : szTe t left ≤ left ∧ -1 ≤ szTe t left := by
  unfold szTe
  have h1 := szI_b t.1.size left hl
  have h0 := hl.1
  have h2 := hl.2
  split
  · omega
  · have := szI_b t.2.1.length (szI t.1.size left) ⟨by omega, by omega⟩
    omega
theorem szTe_ok (t : TerT) (left : Int) (hl : inL left) : szTe t left = -1 ∨ (0 ≤ szTe t left ∧ szTe t left ≤ left ∧ t.1.size ≤ 1048576 ∧ t.2.1.length ≤ 1048576) := by
  unfold szTe
  have h0 := hl.2
  rcases szI_cases t.1.size left hl.1 with h1 | ⟨h1, h2, h3⟩
  · left; rw [if_pos (by omega)]
  · rw [if_neg (by omega)]
    rcases szI_cases t.2.1.length (szI t.1.size left) h1 with g1 | ⟨g1, g2, g3⟩
    · exact .inl g1
    · exact .inr ⟨g1, by omega, by omega, by omega⟩
theorem szTerrain_eq (t : TerT) (left : Int) (hl : inL left) (w1 : t.1.size ≤ 9223372036854775807) (w2 : t.2.1.length ≤ 9223372036854775807) (K : Int → Option R) : laws_szTerrain t left K = K (szTe t left) := by
  have hl' := hl
  unfold inL at hl'
  unfold laws_szTerrain szTe szI
  rw [w64 (by omega)]
  by_cases h : (t.1.size : Int) ≤ left
  · rw [decide_eq_false (by omega), if_pos h, if_neg (by omega), cond_false, szIntS_eq _ _ ⟨by omega, by omega⟩ w2]
    unfold szI
    by_cases h2 : (t.2.1.length : Int) ≤ left - t.1.size
    · rw [if_pos h2, decide_eq_false (by omega)]; rfl
    · rw [if_neg h2]; rfl
  · rw [decide_eq_true (by omega), if_neg h]; rfl
theorem szTerrainS_eq {k : Nat} (hk : 1048576 < k) (a : List TerT) (left : Int) (hl : inL left) (ha : a.length ≤ 9223372036854775807) (hb : ∀ t ∈ a, t.1.size ≤ 9223372036854775807 ∧ t.2.1.length ≤ 9223372036854775807) (K : Int → Option R) : laws_szTerrainS k a left K = K (szS szTe a left) := by
  refine szS_eq hk szTe a ha (fun K => laws_szTerrainS k a left K) (fun m a left i => laws_szTerrainS_l0 k (fun x => K x) (fun x => K x) m a left i) K left hl rfl ?_ ?_ (fun y _ left hl => szTe_b _ _ hl)
  · intro m i left h hs hl
    show laws_szTerrainS_l0 k _ _ (m + 1) a left (i : Int) = bif decide (szTe a[i] left < 0) then K (-1) else laws_szTerrainS_l0 k _ _ m a (szTe a[i] left) ((i + 1 : Nat) : Int)
    have := hb _ (List.getElem_mem h)
    rw [laws_szTerrainS_l0, dlt, d0, decide_eq_true h, toNatC, getD_lt h, wsucc (by omega), szTerrain_eq _ _ hl this.1 this.2]
    rfl
  · intro m left
    show laws_szTerrainS_l0 k _ _ (m + 1) a left (a.length : Int) = K left
    rw [laws_szTerrainS_l0, dlt, decide_eq_false (by omega)]; rfl
def szKn (t : KndT) (left : Int) : Int := szI t.1.size left
theorem szKindS_eq {k : Nat} (hk : 1048576 < k) (a : List KndT) (left : Int) (hl : inL left) (ha : a.length ≤ 9223372036854775807) (hb : ∀ t ∈ a, t.1.size ≤ 9223372036854775807) (K : Int → Option R) : laws_szKindS k a left K = K (szS szKn a left) := by
  refine szS_eq hk szKn a ha (fun K => laws_szKindS k a left K) (fun m a left i => laws_szKindS_l0 k (fun x => K x) (fun x => K x) m a left i) K left hl rfl ?_ ?_ (fun y _ left hl => szI_b _ _ hl)
  · intro m i left h hs hl
    show laws_szKindS_l0 k _ _ (m + 1) a left (i : Int) = bif decide (szKn a[i] left < 0) then K (-1) else laws_szKindS_l0 k _ _ m a (szKn a[i] left) ((i + 1 : Nat) : Int)
    have := hb _ (List.getElem_mem h)
    have h0 := hl.1
    have h1 := hl.2
    rw [laws_szKindS_l0, dlt, d0, decide_eq_true h, toNatC, getD_lt h, wsucc (by omega)]
    unfold laws_szKind szKn szI
    rw [w64 (by omega)]
    by_cases hz : (a[i].1.size : Int) ≤ left
    · rw [decide_eq_false (by omega), if_pos hz]; rfl
    · rw [decide_eq_true (by omega), if_neg hz]; rfl
  · intro m left
    show laws_szKindS_l0 k _ _ (m + 1) a left (a.length : Int) = K left
    rw [laws_szKindS_l0, dlt, decide_eq_false (by omega)]; rfl
def szR (r : RulT) (left : Int) : Int := if szS szTe r.1 left < 0 then -1 else szS szKn r.2.1 (szS szTe r.1 left)
theorem szR_eq {k : Nat} (hk : 1048576 < k) {r : RulT} (w : wideR r) (left : Int) (hl : inL left) (K : Int → Option R) : laws_szRules k r left K = K (szR r left) := by
  obtain ⟨w1, w2, w3, w4⟩ := w
  unfold laws_szRules szR
  rw [szTerrainS_eq hk _ _ hl w1 w3]
  have h0 := hl.2
  have hb1 := szS_b szTe r.1 (fun y _ left hl => szTe_b _ _ hl) left hl
  by_cases h : szS szTe r.1 left < 0
  · rw [decide_eq_true h, if_pos h]; rfl
  · have hl2 : inL (szS szTe r.1 left) := ⟨by omega, by omega⟩
    have hb2 := szS_b szKn r.2.1 (fun y _ left hl => szI_b _ _ hl) _ hl2
    rw [decide_eq_false h, if_neg h, cond_false, szKindS_eq hk _ _ hl2 w2 w4]
    by_cases hn : szS szKn r.2.1 (szS szTe r.1 left) < 0
    · rw [decide_eq_true hn, show szS szKn r.2.1 (szS szTe r.1 left) = -1 by omega]; rfl
    · rw [decide_eq_false hn]; rfl
theorem szR_ok (r : RulT) (left : Int) (hl : inL left) : szR r left = -1 ∨ (0 ≤ szR r left ∧ szR r left ≤ left ∧ smallR r) := by
  unfold szR
  have h0 := hl.2
  rcases szS_ok szTe _ r.1 (fun y _ left hl => szTe_ok y left hl) left hl with h1 | ⟨h1, h2, h3, h4⟩
  · left; rw [if_pos (by omega)]
  · rw [if_neg (by omega)]
    rcases szS_ok szKn (fun t => t.1.size ≤ 1048576) r.2.1 (fun y _ left hl => by
      rcases szI_cases y.1.size left hl.1 with g | ⟨g1, g2, g3⟩
      · exact .inl g
      · exact .inr ⟨g1, g2, by have := hl.2; omega⟩) (szS szTe r.1 left) ⟨h1, by omega⟩ with g1 | ⟨g1, g2, g3, g4⟩
    · exact .inl g1
    · exact .inr ⟨g1, by omega, h3, g3, h4, g4⟩
/-! ### copies, equality -/
theorem toTerrainS_eq {k : Nat} (a : List TerT) (h : a.length < k) (hb : a.length ≤ 137438953472) (hr : ∀ t ∈ a, t.2.1.length < k ∧ t.2.1.length ≤ 137438953472) (K : List TerT → Option R) : laws_toTerrainS k a K = K a := by
  refine toS_eq a ((⟨#[]⟩ : ByteArray), ([], ((0 : Int), ((0 : Int), false)))) h hb (fun K => laws_toTerrainS k a K) (fun m a i out => laws_toTerrainS_l0 k (fun x => K x) m a i out) K rfl ?_ ?_
  · intro m i out hi ho
    show laws_toTerrainS_l0 k _ (m + 1) a (i : Int) out = laws_toTerrainS_l0 k _ m a ((i + 1 : Nat) : Int) _
    have := hr _ (List.getElem_mem hi)
    rw [laws_toTerrainS_l0, dlt, d0, dlt, decide_eq_true hi, decide_eq_true (by omega : i < out.length), toNatC, getD_lt hi, wsucc (by omega)]
    unfold laws_toTerrain
    rw [toIntS_eq _ this.1 this.2]
    rfl
  · intro m out
    show laws_toTerrainS_l0 k _ (m + 1) a (a.length : Int) out = K out
    rw [laws_toTerrainS_l0, dlt, decide_eq_false (by omega)]; rfl
theorem toKindS_eq {k : Nat} (a : List KndT) (h : a.length < k) (hb : a.length ≤ 137438953472) (K : List KndT → Option R) : laws_toKindS k a K = K a := by
  refine toS_eq a ((⟨#[]⟩ : ByteArray), ((0 : Int), ((0 : Int), ((0 : Int), (false, (0 : Int)))))) h hb (fun K => laws_toKindS k a K) (fun m a i out => laws_toKindS_l0 k (fun x => K x) m a i out) K rfl ?_ ?_
  · intro m i out hi ho
    show laws_toKindS_l0 k _ (m + 1) a (i : Int) out = laws_toKindS_l0 k _ m a ((i + 1 : Nat) : Int) _
    rw [laws_toKindS_l0, dlt, d0, dlt, decide_eq_true hi, decide_eq_true (by omega : i < out.length), toNatC, getD_lt hi, wsucc (by omega)]
    rfl
  · intro m out
    show laws_toKindS_l0 k _ (m + 1) a (a.length : Int) out = K out
    rw [laws_toKindS_l0, dlt, decide_eq_false (by omega)]; rfl
theorem toRul_eq {r : RulT} (hs : smallR r) (K : RulT → Option R) : laws_toRules 4194304 r K = K r := by
  obtain ⟨s1, s2, s3, s4⟩ := hs
  unfold laws_toRules
  rw [toTerrainS_eq _ (by omega) (by omega) (fun t ht => by have := s3 t ht; omega), toKindS_eq _ (by omega) (by omega)]
theorem eqTerrain_self {k : Nat} (t : TerT) (h : t.2.1.length < k) (hb : t.2.1.length ≤ 137438953472) (K : Bool → Option R) : laws_eqTerrain k t t K = K true := by
  unfold laws_eqTerrain
  rw [beq_self_eq_true, eqIntS_self _ h hb, decide_eq_true rfl, decide_eq_true rfl, beq_self_eq_true]; rfl
theorem eqTerrainS_self {k : Nat} (a : List TerT) (h : a.length < k) (hb : a.length ≤ 137438953472) (hr : ∀ t ∈ a, t.2.1.length < k ∧ t.2.1.length ≤ 137438953472) (K : Bool → Option R) : laws_eqTerrainS k a a K = K true := by
  refine eqS_self a h (fun K => laws_eqTerrainS k a a K) (fun m a b i => laws_eqTerrainS_l0 k (K true) (fun x => K x) m a b i) K rfl ?_ ?_
  · intro m i hi
    show laws_eqTerrainS_l0 k _ _ (m + 1) a a (i : Int) = laws_eqTerrainS_l0 k _ _ m a a ((i + 1 : Nat) : Int)
    have := hr _ (List.getElem_mem hi)
    rw [laws_eqTerrainS_l0, dlt, d0, decide_eq_true hi, wsucc (by omega), toNatC, getD_lt hi, eqTerrain_self _ this.1 this.2]
    rfl
  · intro m
    show laws_eqTerrainS_l0 k _ _ (m + 1) a a (a.length : Int) = K true
    rw [laws_eqTerrainS_l0, dlt, decide_eq_false (by omega)]; rfl
theorem eqKind_self (t : KndT) (K : Bool → Option R) : laws_eqKind t t K = K true := by
  unfold laws_eqKind
  rw [beq_self_eq_true, decide_eq_true rfl, decide_eq_true rfl, decide_eq_true rfl, beq_self_eq_true, decide_eq_true rfl]; rfl
theorem eqKindS_self {k : Nat} (a : List KndT) (h : a.length < k) (hb : a.length ≤ 137438953472) (K : Bool → Option R) : laws_eqKindS k a a K = K true := by
  refine eqS_self a h (fun K => laws_eqKindS k a a K) (fun m a b i => laws_eqKindS_l0 k (K true) (fun x => K x) m a b i) K rfl ?_ ?_
  · intro m i hi
    show laws_eqKindS_l0 k _ _ (m + 1) a a (i : Int) = laws_eqKindS_l0 k _ _ m a a ((i + 1 : Nat) : Int)
    rw [laws_eqKindS_l0, dlt, d0, decide_eq_true hi, wsucc (by omega), toNatC, getD_lt hi, eqKind_self]
    rfl
  · intro m
    show laws_eqKindS_l0 k _ _ (m + 1) a a (a.length : Int) = K true
    rw [laws_eqKindS_l0, dlt, decide_eq_false (by omega)]; rfl
theorem eqRul_self {r : RulT} (hs : smallR r) (K : Bool → Option R) : laws_eqRules 4194304 r r K = K true := by
  obtain ⟨s1, s2, s3, s4⟩ := hs
  unfold laws_eqRules
  rw [eqTerrainS_self _ (by omega) (by omega) (fun t ht => by have := s3 t ht; omega), eqKindS_self _ (by omega) (by omega), decide_eq_true rfl, decide_eq_true rfl, decide_eq_true rfl, decide_eq_true rfl, decide_eq_true rfl]
  rfl
/-! ### names -/
def letB (s : ByteArray) (i : Nat) : Bool := !decide (byteAt s (i : Int) < 97) && !decide (122 < byteAt s (i : Int))
def nameB (s : ByteArray) : Bool := (List.range s.size).all (letB s) && inB (s.size : Int) 1 8
theorem rName_eq {k : Nat} (s : ByteArray) (h : s.size < k) (hb : s.size ≤ 137438953472) (K : Bool → Option R) : spec_rName k s K = K (nameB s) := by
  unfold spec_rName nameB
  have := loop_allN (fun m i => spec_rName_l0 k (fun s1 => spec_l1In ((s1.size : Nat) : Int) 1 8 fun r => K r) (fun x => K x) m s (i : Int)) s.size (letB s) (spec_l1In ((s.size : Nat) : Int) 1 8 fun r => K r) (K false) ?_ ?_ h
  · refine this.trans ?_
    rw [l1In_eq]
    cases (List.range s.size).all (letB s) <;> rfl
  · intro m i hi
    show spec_rName_l0 k _ _ (m + 1) s (i : Int) = bif _ then spec_rName_l0 k _ _ m s ((i + 1 : Nat) : Int) else _
    rw [spec_rName_l0, dlt, d0, decide_eq_true hi, wsucc (by omega)]
    unfold letB
    cases decide (byteAt s (i : Int) < 97)
    · cases decide (122 < byteAt s (i : Int)) <;> rfl
    · rfl
  · intro m
    show spec_rName_l0 k _ _ (m + 1) s (s.size : Int) = _
    rw [spec_rName_l0, dlt, decide_eq_false (by omega)]; rfl
theorem isName_eq {k : Nat} (s : ByteArray) (h : s.size < k) (hb : s.size ≤ 137438953472) (K : Bool → Option R) : impl_isName k s K = K (nameB s) := by
  unfold impl_isName nameB
  have := loop_allN (fun m i => impl_isName_l0 k (fun s1 => impl_inRange ((s1.size : Nat) : Int) 1 8 fun r => K r) (fun x => K x) m s (i : Int)) s.size (letB s) (impl_inRange ((s.size : Nat) : Int) 1 8 fun r => K r) (K false) ?_ ?_ h
  · refine this.trans ?_
    rw [inRange_eq]
    cases (List.range s.size).all (letB s) <;> rfl
  · intro m i hi
    show impl_isName_l0 k _ _ (m + 1) s (i : Int) = bif _ then impl_isName_l0 k _ _ m s ((i + 1 : Nat) : Int) else _
    rw [impl_isName_l0, dlt, d0, decide_eq_true hi, wsucc (by omega)]
    unfold letB
    cases decide (byteAt s (i : Int) < 97)
    · cases decide (122 < byteAt s (i : Int)) <;> rfl
    · rfl
  · intro m
    show impl_isName_l0 k _ _ (m + 1) s (s.size : Int) = _
    rw [impl_isName_l0, dlt, decide_eq_false (by omega)]; rfl
def isT (name : ByteArray) (t : TerT) : Bool := t.1.toList == name.toList
def isK (name : ByteArray) (t : KndT) : Bool := t.1.toList == name.toList
theorem rTerrain_eq {k : Nat} (l : List TerT) (name : ByteArray) (h : l.length < k) (hb : l.length ≤ 137438953472) (K : Int → Option R) : spec_rTerrain k l name K = K (findI (isT name) l) := by
  unfold spec_rTerrain
  refine loop_find (fun m i => spec_rTerrain_l0 k (K (-1)) (fun x => K x) m name l (l.length : Int) (i : Int)) l (isT name) K ?_ ?_ h
  · intro m i hi
    show spec_rTerrain_l0 k _ _ (m + 1) name l (l.length : Int) (i : Int) = bif _ then _ else spec_rTerrain_l0 k _ _ m name l (l.length : Int) ((i + 1 : Nat) : Int)
    rw [spec_rTerrain_l0, dlt, d0, decide_eq_true hi, wsucc (by omega), toNatC, getD_lt hi]
    rfl
  · intro m
    show spec_rTerrain_l0 k _ _ (m + 1) name l (l.length : Int) (l.length : Int) = _
    rw [spec_rTerrain_l0, dlt, decide_eq_false (by omega)]; rfl
theorem rKind_eq {k : Nat} (l : List KndT) (name : ByteArray) (h : l.length < k) (hb : l.length ≤ 137438953472) (K : Int → Option R) : spec_rKind k l name K = K (findI (isK name) l) := by
  unfold spec_rKind
  refine loop_find (fun m i => spec_rKind_l0 k (K (-1)) (fun x => K x) m name l (l.length : Int) (i : Int)) l (isK name) K ?_ ?_ h
  · intro m i hi
    show spec_rKind_l0 k _ _ (m + 1) name l (l.length : Int) (i : Int) = bif _ then _ else spec_rKind_l0 k _ _ m name l (l.length : Int) ((i + 1 : Nat) : Int)
    rw [spec_rKind_l0, dlt, d0, decide_eq_true hi, wsucc (by omega), toNatC, getD_lt hi]
    rfl
  · intro m
    show spec_rKind_l0 k _ _ (m + 1) name l (l.length : Int) (l.length : Int) = _
    rw [spec_rKind_l0, dlt, decide_eq_false (by omega)]; rfl
theorem terrainIndex_eq {k : Nat} (l : List TerT) (name : ByteArray) (h : l.length < k) (hb : l.length ≤ 137438953472) (K : Int → Option R) : impl_terrainIndex k l name K = K (findI (isT name) l) := by
  unfold impl_terrainIndex slices_IndexFunc_Simpl_Terrain_impl_Terrain__impl_terrainIndex_1
  refine loop_find (fun m i => slices_IndexFunc_Simpl_Terrain_impl_Terrain__impl_terrainIndex_1_l0 k (K (-1)) (fun x => K x) m l name (l.length : Int) (i : Int)) l (isT name) K ?_ ?_ h
  · intro m i hi
    show slices_IndexFunc_Simpl_Terrain_impl_Terrain__impl_terrainIndex_1_l0 k _ _ (m + 1) l name (l.length : Int) (i : Int) = bif _ then _ else slices_IndexFunc_Simpl_Terrain_impl_Terrain__impl_terrainIndex_1_l0 k _ _ m l name (l.length : Int) ((i + 1 : Nat) : Int)
    rw [slices_IndexFunc_Simpl_Terrain_impl_Terrain__impl_terrainIndex_1_l0, dlt, d0, decide_eq_true hi, wsucc (by omega), toNatC, getD_lt hi]
    rfl
  · intro m
    show slices_IndexFunc_Simpl_Terrain_impl_Terrain__impl_terrainIndex_1_l0 k _ _ (m + 1) l name (l.length : Int) (l.length : Int) = _
    rw [slices_IndexFunc_Simpl_Terrain_impl_Terrain__impl_terrainIndex_1_l0, dlt, decide_eq_false (by omega)]; rfl
theorem kindIndex_eq {k : Nat} (l : List KndT) (name : ByteArray) (h : l.length < k) (hb : l.length ≤ 137438953472) (K : Int → Option R) : impl_kindIndex k l name K = K (findI (isK name) l) := by
  unfold impl_kindIndex slices_IndexFunc_Simpl_Kind_impl_Kind__impl_kindIndex_1
  refine loop_find (fun m i => slices_IndexFunc_Simpl_Kind_impl_Kind__impl_kindIndex_1_l0 k (K (-1)) (fun x => K x) m l name (l.length : Int) (i : Int)) l (isK name) K ?_ ?_ h
  · intro m i hi
    show slices_IndexFunc_Simpl_Kind_impl_Kind__impl_kindIndex_1_l0 k _ _ (m + 1) l name (l.length : Int) (i : Int) = bif _ then _ else slices_IndexFunc_Simpl_Kind_impl_Kind__impl_kindIndex_1_l0 k _ _ m l name (l.length : Int) ((i + 1 : Nat) : Int)
    rw [slices_IndexFunc_Simpl_Kind_impl_Kind__impl_kindIndex_1_l0, dlt, d0, decide_eq_true hi, wsucc (by omega), toNatC, getD_lt hi]
    rfl
  · intro m
    show slices_IndexFunc_Simpl_Kind_impl_Kind__impl_kindIndex_1_l0 k _ _ (m + 1) l name (l.length : Int) (l.length : Int) = _
    rw [slices_IndexFunc_Simpl_Kind_impl_Kind__impl_kindIndex_1_l0, dlt, decide_eq_false (by omega)]; rfl
theorem notCost_eq {k : Nat} (l : List Int) (h : l.length < k) (hb : l.length ≤ 137438953472) (K : Bool → Option R) : slices_ContainsFunc_Sint_int__impl_goodTerrain_1 k l K = K (!l.all fun x => inB x 0 9) := by
  unfold slices_ContainsFunc_Sint_int__impl_goodTerrain_1 slices_IndexFunc_Sint_int__impl_goodTerrain_1
  have := loop_find (fun m i => slices_IndexFunc_Sint_int__impl_goodTerrain_1_l0 k (K (decide ((0 : Int) ≤ -1))) (fun x => K (decide (0 ≤ x))) m l (l.length : Int) (i : Int)) l (fun x => !inB x 0 9) (fun x => K (decide (0 ≤ x))) ?_ ?_ (m := k) h
  · refine this.trans ?_
    show K (decide (0 ≤ findI (fun x => !inB x 0 9) l)) = _
    rw [findI_ge]
    congr 1
    rw [List.all_eq_not_any_not]; simp
  · intro m i hi
    show slices_IndexFunc_Sint_int__impl_goodTerrain_1_l0 k _ _ (m + 1) l (l.length : Int) (i : Int) = bif _ then _ else slices_IndexFunc_Sint_int__impl_goodTerrain_1_l0 k _ _ m l (l.length : Int) ((i + 1 : Nat) : Int)
    rw [slices_IndexFunc_Sint_int__impl_goodTerrain_1_l0, dlt, d0, decide_eq_true hi, toNatC, wsucc (by omega), getD_lt hi]
    unfold impl_goodTerrain_1
    rw [inRange_eq]
    rfl
  · intro m
    show slices_IndexFunc_Sint_int__impl_goodTerrain_1_l0 k _ _ (m + 1) l (l.length : Int) (l.length : Int) = _
    rw [slices_IndexFunc_Sint_int__impl_goodTerrain_1_l0, dlt, decide_eq_false (by omega)]; rfl
/-! ### good rules -/
def terB (r : RulT) (i : Nat) (t : TerT) : Bool := nameB t.1 && (decide (findI (isT t.1) r.1 = (i : Int)) && (decide (t.2.1.length = r.2.1.length) && ((t.2.1.all fun x => inB x 0 9) && (inB t.2.2.1 (-3) 3 && inB t.2.2.2.1 0 3))))
def kndB (r : RulT) (i : Nat) (t : KndT) : Bool := nameB t.1 && (decide (findI (isK t.1) r.2.1 = (i : Int)) && (inB t.2.1 1 9 && (inB t.2.2.1 0 9 && (inB t.2.2.2.1 1 4 && inB t.2.2.2.2.2 0 4))))
abbrev zTer : TerT := ((⟨#[]⟩ : ByteArray), ([], ((0 : Int), ((0 : Int), false))))
abbrev zKnd : KndT := ((⟨#[]⟩ : ByteArray), ((0 : Int), ((0 : Int), ((0 : Int), (false, (0 : Int))))))
def limB (r : RulT) : Bool := inB r.2.2.1 1 4 && (inB r.2.2.2.1 0 9 && (inB r.2.2.2.2.1 1 9 && (inB r.2.2.2.2.2.1 0 20 && inB r.2.2.2.2.2.2 1 30)))
def goodR (r : RulT) : Bool := inB (r.1.length : Int) 1 6 && (inB (r.2.1.length : Int) 1 4 && ((List.range r.1.length).all (fun i => terB r i (List.getD r.1 i zTer)) && ((List.range r.2.1.length).all (fun i => kndB r i (List.getD r.2.1 i zKnd)) && limB r)))
theorem sR_l0 {k q : Nat} {r : RulT} (hs : smallR r) (hk : 1048576 < k) (hq : r.1.length < q) (K0 : RulT → Option R) (K1 : Bool → Option R) :
    spec_rGood_l0 k K0 K1 q r.1 (r.1.length : Int) 0 r = bif (List.range r.1.length).all (fun i => terB r i (List.getD r.1 i zTer)) then K0 r else K1 false := by
  obtain ⟨s1, s2, s3, s4⟩ := hs
  refine loop_allN (fun m i => spec_rGood_l0 k K0 K1 m r.1 (r.1.length : Int) (i : Int) r) r.1.length _ (K0 r) (K1 false) ?_ ?_ hq
  · intro m i hi
    show spec_rGood_l0 k K0 K1 (m + 1) r.1 (r.1.length : Int) (i : Int) r = bif terB r i (List.getD r.1 i zTer) then spec_rGood_l0 k K0 K1 m r.1 (r.1.length : Int) ((i + 1 : Nat) : Int) r else _
    have hm := s3 _ (List.getElem_mem hi)
    rw [spec_rGood_l0, dlt, d0, decide_eq_true hi, toNatC, wsucc (by omega), getD_lt hi, rName_eq _ (by omega) (by omega), rTerrain_eq _ _ (by omega) (by omega), l1All_eq _ _ _ (by omega) (by omega), l1In_eq, l1In_eq, dnat]
    unfold terB
    cases nameB r.1[i].1
    · rfl
    cases decide (findI (isT r.1[i].1) r.1 = (i : Int))
    · rfl
    cases decide (r.1[i].2.1.length = r.2.1.length)
    · rfl
    cases (r.1[i].2.1.all fun x => inB x 0 9)
    · rfl
    cases inB r.1[i].2.2.1 (-3) 3
    · rfl
    cases inB r.1[i].2.2.2.1 0 3 <;> rfl
  · intro m
    show spec_rGood_l0 k K0 K1 (m + 1) r.1 (r.1.length : Int) (r.1.length : Int) r = _
    rw [spec_rGood_l0, dlt, decide_eq_false (by omega)]; rfl
theorem sR_l1 {k q : Nat} {r : RulT} (hs : smallR r) (hk : 1048576 < k) (hq : r.2.1.length < q) (K0 : RulT → Option R) (K1 : Bool → Option R) :
    spec_rGood_l1 k K0 K1 q r.2.1 (r.2.1.length : Int) 0 r = bif (List.range r.2.1.length).all (fun i => kndB r i (List.getD r.2.1 i zKnd)) then K0 r else K1 false := by
  obtain ⟨s1, s2, s3, s4⟩ := hs
  refine loop_allN (fun m i => spec_rGood_l1 k K0 K1 m r.2.1 (r.2.1.length : Int) (i : Int) r) r.2.1.length _ (K0 r) (K1 false) ?_ ?_ hq
  · intro m i hi
    show spec_rGood_l1 k K0 K1 (m + 1) r.2.1 (r.2.1.length : Int) (i : Int) r = bif kndB r i (List.getD r.2.1 i zKnd) then spec_rGood_l1 k K0 K1 m r.2.1 (r.2.1.length : Int) ((i + 1 : Nat) : Int) r else _
    have hm := s4 _ (List.getElem_mem hi)
    rw [spec_rGood_l1, dlt, d0, decide_eq_true hi, toNatC, wsucc (by omega), getD_lt hi, rName_eq _ (by omega) (by omega), rKind_eq _ _ (by omega) (by omega), l1In_eq, l1In_eq, l1In_eq, l1In_eq]
    unfold kndB
    cases nameB r.2.1[i].1
    · rfl
    cases decide (findI (isK r.2.1[i].1) r.2.1 = (i : Int))
    · rfl
    cases inB r.2.1[i].2.1 1 9
    · rfl
    cases inB r.2.1[i].2.2.1 0 9
    · rfl
    cases inB r.2.1[i].2.2.2.1 1 4
    · rfl
    cases inB r.2.1[i].2.2.2.2.2 0 4 <;> rfl
  · intro m
    show spec_rGood_l1 k K0 K1 (m + 1) r.2.1 (r.2.1.length : Int) (r.2.1.length : Int) r = _
    rw [spec_rGood_l1, dlt, decide_eq_false (by omega)]; rfl
theorem rGood_eq {r : RulT} (hs : smallR r) (K : Bool → Option R) : spec_rGood 4194304 r K = K (goodR r) := by
  have hs' := hs
  obtain ⟨s1, s2, s3, s4⟩ := hs'
  unfold spec_rGood goodR limB
  rw [l1In_eq, l1In_eq, sR_l0 hs (by omega) (by omega), sR_l1 hs (by omega) (by omega), l1In_eq, l1In_eq, l1In_eq, l1In_eq, l1In_eq]
  cases inB (r.1.length : Int) 1 6
  · rfl
  cases inB (r.2.1.length : Int) 1 4
  · rfl
  cases (List.range r.1.length).all (fun i => terB r i (List.getD r.1 i zTer))
  · rfl
  cases (List.range r.2.1.length).all (fun i => kndB r i (List.getD r.2.1 i zKnd))
  · rfl
  cases inB r.2.2.1 1 4
  · rfl
  cases inB r.2.2.2.1 0 9
  · rfl
  cases inB r.2.2.2.2.1 1 9
  · rfl
  cases inB r.2.2.2.2.2.1 0 20 <;> rfl
theorem goodTerrain_eq {k : Nat} (t : TerT) (n : Nat) (h1 : t.1.size < k) (h2 : t.1.size ≤ 137438953472) (h3 : t.2.1.length < k) (h4 : t.2.1.length ≤ 137438953472) (K : Bool → Option R) :
    impl_goodTerrain k t (n : Int) K = K (nameB t.1 && (decide (t.2.1.length = n) && (inB t.2.2.1 (-3) 3 && (inB t.2.2.2.1 0 3 && t.2.1.all fun x => inB x 0 9)))) := by
  unfold impl_goodTerrain
  rw [isName_eq _ h1 h2, dnat, inRange_eq, inRange_eq, notCost_eq _ h3 h4]
  cases nameB t.1
  · rfl
  cases decide (t.2.1.length = n)
  · rfl
  cases inB t.2.2.1 (-3) 3
  · rfl
  cases inB t.2.2.2.1 0 3
  · rfl
  cases (t.2.1.all fun x => inB x 0 9) <;> rfl
theorem goodKind_eq {k : Nat} (t : KndT) (h1 : t.1.size < k) (h2 : t.1.size ≤ 137438953472) (K : Bool → Option R) :
    impl_goodKind k t K = K (nameB t.1 && (inB t.2.1 1 9 && (inB t.2.2.1 0 9 && (inB t.2.2.2.1 1 4 && inB t.2.2.2.2.2 0 4)))) := by
  unfold impl_goodKind
  rw [isName_eq _ h1 h2, inRange_eq, inRange_eq, inRange_eq, inRange_eq]
  cases nameB t.1
  · rfl
  cases inB t.2.1 1 9
  · rfl
  cases inB t.2.2.1 0 9
  · rfl
  cases inB t.2.2.2.1 1 4 <;> rfl
theorem iR_l0 {k q : Nat} {r : RulT} (hs : smallR r) (hk : 1048576 < k) (hq : r.1.length < q) (K0 : RulT → Option R) (K1 : Bool → Option R) :
    impl_IsRules_l0 k K0 K1 q r.1 (r.1.length : Int) 0 r = bif (List.range r.1.length).all (fun i => terB r i (List.getD r.1 i zTer)) then K0 r else K1 false := by
  obtain ⟨s1, s2, s3, s4⟩ := hs
  refine loop_allN (fun m i => impl_IsRules_l0 k K0 K1 m r.1 (r.1.length : Int) (i : Int) r) r.1.length _ (K0 r) (K1 false) ?_ ?_ hq
  · intro m i hi
    show impl_IsRules_l0 k K0 K1 (m + 1) r.1 (r.1.length : Int) (i : Int) r = bif terB r i (List.getD r.1 i zTer) then impl_IsRules_l0 k K0 K1 m r.1 (r.1.length : Int) ((i + 1 : Nat) : Int) r else _
    have hm := s3 _ (List.getElem_mem hi)
    rw [impl_IsRules_l0, dlt, d0, decide_eq_true hi, toNatC, wsucc (by omega), getD_lt hi, goodTerrain_eq _ _ (by omega) (by omega) (by omega) (by omega), terrainIndex_eq _ _ (by omega) (by omega)]
    unfold terB
    cases nameB r.1[i].1
    · rfl
    cases decide (findI (isT r.1[i].1) r.1 = (i : Int)) <;> cases decide (r.1[i].2.1.length = r.2.1.length) <;> cases (r.1[i].2.1.all fun x => inB x 0 9) <;> cases inB r.1[i].2.2.1 (-3) 3 <;> cases inB r.1[i].2.2.2.1 0 3 <;> rfl
  · intro m
    show impl_IsRules_l0 k K0 K1 (m + 1) r.1 (r.1.length : Int) (r.1.length : Int) r = _
    rw [impl_IsRules_l0, dlt, decide_eq_false (by omega)]; rfl
theorem iR_l1 {k q : Nat} {r : RulT} (hs : smallR r) (hk : 1048576 < k) (hq : r.2.1.length < q) (K0 : RulT → Option R) (K1 : Bool → Option R) :
    impl_IsRules_l1 k K0 K1 q r.2.1 (r.2.1.length : Int) 0 r = bif (List.range r.2.1.length).all (fun i => kndB r i (List.getD r.2.1 i zKnd)) then K0 r else K1 false := by
  obtain ⟨s1, s2, s3, s4⟩ := hs
  refine loop_allN (fun m i => impl_IsRules_l1 k K0 K1 m r.2.1 (r.2.1.length : Int) (i : Int) r) r.2.1.length _ (K0 r) (K1 false) ?_ ?_ hq
  · intro m i hi
    show impl_IsRules_l1 k K0 K1 (m + 1) r.2.1 (r.2.1.length : Int) (i : Int) r = bif kndB r i (List.getD r.2.1 i zKnd) then impl_IsRules_l1 k K0 K1 m r.2.1 (r.2.1.length : Int) ((i + 1 : Nat) : Int) r else _
    have hm := s4 _ (List.getElem_mem hi)
    rw [impl_IsRules_l1, dlt, d0, decide_eq_true hi, toNatC, wsucc (by omega), getD_lt hi, goodKind_eq _ (by omega) (by omega), kindIndex_eq _ _ (by omega) (by omega)]
    unfold kndB
    cases nameB r.2.1[i].1
    · rfl
    cases decide (findI (isK r.2.1[i].1) r.2.1 = (i : Int)) <;> cases inB r.2.1[i].2.1 1 9 <;> cases inB r.2.1[i].2.2.1 0 9 <;> cases inB r.2.1[i].2.2.2.1 1 4 <;> cases inB r.2.1[i].2.2.2.2.2 0 4 <;> rfl
  · intro m
    show impl_IsRules_l1 k K0 K1 (m + 1) r.2.1 (r.2.1.length : Int) (r.2.1.length : Int) r = _
    rw [impl_IsRules_l1, dlt, decide_eq_false (by omega)]; rfl
theorem IsRules_eq {r : RulT} (hs : smallR r) (K : Bool → Option R) : impl_IsRules 4194304 r K = K (goodR r) := by
  have hs' := hs
  obtain ⟨s1, s2, s3, s4⟩ := hs'
  unfold impl_IsRules goodR limB
  rw [inRange_eq, inRange_eq, iR_l0 hs (by omega) (by omega), iR_l1 hs (by omega) (by omega), inRange_eq, inRange_eq, inRange_eq, inRange_eq, inRange_eq]
  cases inB (r.1.length : Int) 1 6
  · rfl
  cases inB (r.2.1.length : Int) 1 4
  · rfl
  cases (List.range r.1.length).all (fun i => terB r i (List.getD r.1 i zTer))
  · rfl
  cases (List.range r.2.1.length).all (fun i => kndB r i (List.getD r.2.1 i zKnd))
  · rfl
  cases inB r.2.2.1 1 4
  · rfl
  cases inB r.2.2.2.1 0 9
  · rfl
  cases inB r.2.2.2.2.1 1 9
  · rfl
  cases inB r.2.2.2.2.2.1 0 20 <;> rfl
/-! ### the laws -/
theorem sIsRules_eq {r : RulT} (hs : smallR r) (K : Bool → Option R) : spec_IsRules 4194304 r K = K (goodR r) := by unfold spec_IsRules; rw [rGood_eq hs]
theorem law_FnExactIsRules (r : RulT) (w : Wf RulTy r) (K : Bool → Option R) : laws_FnExactIsRules 4194304 r K = K true := by
  unfold laws_FnExactIsRules
  rw [szR_eq (by omega) (wfRul w) _ inL0]
  rcases szR_ok r 1048576 inL0 with h | ⟨g1, g2, hs⟩
  · rw [h]; rfl
  · rw [decide_eq_false (by omega), cond_false, toRul_eq hs, sIsRules_eq hs, toRul_eq hs, IsRules_eq hs, toRul_eq hs, eqRul_self hs]
    simp
theorem KindNamed_same {r : RulT} (hs : smallR r) (n : ByteArray) : ∃ v b, (∀ {R : Type} (K : Int → Bool → Option R), spec_KindNamed 4194304 r n K = K v b) ∧ ∀ {R : Type} (K : Int → Bool → Option R), impl_KindNamed 4194304 r n K = K v b := by
  have hs' := hs
  obtain ⟨s1, s2, s3, s4⟩ := hs'
  cases hg : goodR r
  · exact ⟨0, false, fun K => by unfold spec_KindNamed; rw [rGood_eq hs, hg]; rfl, fun K => by unfold impl_KindNamed; rw [IsRules_eq hs, hg]; rfl⟩
  by_cases hf : findI (isK n) r.2.1 < 0
  · exact ⟨0, false, fun K => by unfold spec_KindNamed; rw [rGood_eq hs, hg, rKind_eq _ _ (by omega) (by omega), decide_eq_true hf]; rfl, fun K => by unfold impl_KindNamed; rw [IsRules_eq hs, hg, kindIndex_eq _ _ (by omega) (by omega), decide_eq_true hf]; rfl⟩
  · exact ⟨findI (isK n) r.2.1, true, fun K => by unfold spec_KindNamed; rw [rGood_eq hs, hg, rKind_eq _ _ (by omega) (by omega), decide_eq_false hf, Bool.not_true, cond_false, cond_false, rKind_eq _ _ (by omega) (by omega)],
      fun K => by unfold impl_KindNamed; rw [IsRules_eq hs, hg, kindIndex_eq _ _ (by omega) (by omega), decide_eq_false hf, Bool.not_true, cond_false, cond_false, kindIndex_eq _ _ (by omega) (by omega)]⟩
theorem TerrainNamed_same {r : RulT} (hs : smallR r) (n : ByteArray) : ∃ v b, (∀ {R : Type} (K : Int → Bool → Option R), spec_TerrainNamed 4194304 r n K = K v b) ∧ ∀ {R : Type} (K : Int → Bool → Option R), impl_TerrainNamed 4194304 r n K = K v b := by
  have hs' := hs
  obtain ⟨s1, s2, s3, s4⟩ := hs'
  cases hg : goodR r
  · exact ⟨0, false, fun K => by unfold spec_TerrainNamed; rw [rGood_eq hs, hg]; rfl, fun K => by unfold impl_TerrainNamed; rw [IsRules_eq hs, hg]; rfl⟩
  by_cases hf : findI (isT n) r.1 < 0
  · exact ⟨0, false, fun K => by unfold spec_TerrainNamed; rw [rGood_eq hs, hg, rTerrain_eq _ _ (by omega) (by omega), decide_eq_true hf]; rfl, fun K => by unfold impl_TerrainNamed; rw [IsRules_eq hs, hg, terrainIndex_eq _ _ (by omega) (by omega), decide_eq_true hf]; rfl⟩
  · exact ⟨findI (isT n) r.1, true, fun K => by unfold spec_TerrainNamed; rw [rGood_eq hs, hg, rTerrain_eq _ _ (by omega) (by omega), decide_eq_false hf, Bool.not_true, cond_false, cond_false, rTerrain_eq _ _ (by omega) (by omega)],
      fun K => by unfold impl_TerrainNamed; rw [IsRules_eq hs, hg, terrainIndex_eq _ _ (by omega) (by omega), decide_eq_false hf, Bool.not_true, cond_false, cond_false, terrainIndex_eq _ _ (by omega) (by omega)]⟩
theorem law_FnExactKindNamed (r : RulT) (w : Wf RulTy r) (n : ByteArray) (w2 : Wf .str n) (K : Bool → Option R) : laws_FnExactKindNamed 4194304 r n K = K true := by
  unfold laws_FnExactKindNamed
  cases decide ((1048576 : Int) < ((ByteArray.size n : Nat) : Int))
  · rw [cond_false, szR_eq (by omega) (wfRul w) _ inL0]
    rcases szR_ok r 1048576 inL0 with h | ⟨g1, g2, hs⟩
    · rw [h]; rfl
    · obtain ⟨v, b, e1, e2⟩ := KindNamed_same hs n
      rw [decide_eq_false (by omega), cond_false, toRul_eq hs, e1, toRul_eq hs, e2, toRul_eq hs, eqRul_self hs]
      simp
  · rfl
theorem law_FnExactTerrainNamed (r : RulT) (w : Wf RulTy r) (n : ByteArray) (w2 : Wf .str n) (K : Bool → Option R) : laws_FnExactTerrainNamed 4194304 r n K = K true := by
  unfold laws_FnExactTerrainNamed
  cases decide ((1048576 : Int) < ((ByteArray.size n : Nat) : Int))
  · rw [cond_false, szR_eq (by omega) (wfRul w) _ inL0]
    rcases szR_ok r 1048576 inL0 with h | ⟨g1, g2, hs⟩
    · rw [h]; rfl
    · obtain ⟨v, b, e1, e2⟩ := TerrainNamed_same hs n
      rw [decide_eq_false (by omega), cond_false, toRul_eq hs, e1, toRul_eq hs, e2, toRul_eq hs, eqRul_self hs]
      simp
  · rfl
end
end Go.Lg
/- Boards: what the functions answer; their laws. -/
set_option linter.unusedSimpArgs false
set_option linter.unusedVariables false
namespace Go.Lg
open Go Go.Ev
section
variable {R α : Type}
abbrev BrdT := RulT × MapT
abbrev BrdTy : Ty := .st (.pair RulTy MapTy)
def smallB (b : BrdT) : Prop := smallR b.1 ∧ small b.2
theorem szBoard_ret {b : BrdT} (w : Wf BrdTy b) : ∃ r : Int, (∀ {R : Type} (K : Int → Option R), laws_szBoard 4194304 b 1048576 K = K r) ∧ (r = -1 ∨ (inL r ∧ smallB b)) := by
  obtain ⟨w1, w2⟩ := w
  rcases szR_ok b.1 1048576 inL0 with h | ⟨g1, g2, hs⟩
  · exact ⟨-1, fun K => by unfold laws_szBoard; rw [szR_eq (by omega) (wfRul w1) _ inL0, h]; rfl, .inl rfl⟩
  · obtain ⟨r, h1, h2⟩ := szMap_ret w2 (szR b.1 1048576) ⟨g1, g2⟩
    refine ⟨r, fun K => ?_, ?_⟩
    · unfold laws_szBoard
      rw [szR_eq (by omega) (wfRul w1) _ inL0, decide_eq_false (by omega), cond_false, h1]
      rcases h2 with h2 | ⟨h2, _⟩
      · rw [h2]; rfl
      · rw [decide_eq_false (by omega)]; rfl
    · rcases h2 with h2 | ⟨h2, h3, h4⟩
      · exact .inl h2
      · exact .inr ⟨⟨h2, by omega⟩, hs, h4⟩
theorem toBrd_eq {b : BrdT} (hs : smallB b) (K : BrdT → Option R) : laws_toBoard 4194304 b K = K b := by
  unfold laws_toBoard
  rw [toRul_eq hs.1, toMap_eq hs.2]
theorem eqBrd_self {b : BrdT} (hs : smallB b) (K : Bool → Option R) : laws_eqBoard 4194304 b b K = K true := by
  unfold laws_eqBoard
  rw [eqRul_self hs.1, Bool.not_true, cond_false, eqMap_self hs.2]; rfl
def goodB (b : BrdT) : Bool := goodR b.1 && (good b.2 && b.2.2.2.1.all fun x => inB x 0 ((b.1.1.length : Int) - 1))
theorem good_rul {r : RulT} (h : goodR r = true) : (1 ≤ r.1.length ∧ r.1.length ≤ 6) ∧ (1 ≤ r.2.1.length ∧ r.2.1.length ≤ 4) ∧ (∀ i < r.1.length, terB r i (List.getD r.1 i zTer) = true) ∧ (∀ i < r.2.1.length, kndB r i (List.getD r.2.1 i zKnd) = true) ∧ limB r = true := by
  unfold goodR at h
  simp only [Bool.and_eq_true, inB_iff, List.all_eq_true, List.mem_range] at h
  obtain ⟨h1, h2, h3, h4, h5⟩ := h
  exact ⟨by omega, by omega, h3, h4, h5⟩
theorem bGood_eq {b : BrdT} (hs : smallB b) (K : Bool → Option R) : spec_bGood 4194304 b K = K (goodB b) := by
  obtain ⟨s1, s2⟩ := hs
  have s2' := s2
  obtain ⟨q1, q2, q3⟩ := s2'
  unfold spec_bGood goodB
  rw [rGood_eq s1, mGood_eq s2]
  cases hg : goodR b.1
  · rfl
  obtain ⟨h1, _⟩ := good_rul hg
  rw [w64 (by omega), l1All_eq _ _ _ (by omega) (by omega)]
  cases good b.2
  · rfl
  cases (b.2.2.2.1.all fun x => inB x 0 ((b.1.1.length : Int) - 1)) <;> rfl
theorem ter_ge {m : MapT} (h : good m = true) : ∀ x ∈ m.2.2.1, 0 ≤ x ∧ x ≤ 5 := by
  unfold good at h
  simp only [Bool.and_eq_true, inB_iff, List.all_eq_true] at h
  exact h.2.2.2.1
theorem notTer_eq {k : Nat} (l : List Int) (b : BrdT) (h : l.length < k) (hb : l.length ≤ 137438953472) (K : Bool → Option R) : slices_ContainsFunc_Sint_int__impl_IsBoard_1 k l b K = K (l.any fun x => decide ((b.1.1.length : Int) ≤ x)) := by
  unfold slices_ContainsFunc_Sint_int__impl_IsBoard_1 slices_IndexFunc_Sint_int__impl_IsBoard_1
  have := loop_find (fun m i => slices_IndexFunc_Sint_int__impl_IsBoard_1_l0 k (K (decide ((0 : Int) ≤ -1))) (fun x => K (decide (0 ≤ x))) m l b (l.length : Int) (i : Int)) l (fun x => decide ((b.1.1.length : Int) ≤ x)) (fun x => K (decide (0 ≤ x))) ?_ ?_ (m := k) h
  · refine this.trans ?_
    show K (decide (0 ≤ findI (fun x => decide ((b.1.1.length : Int) ≤ x)) l)) = _
    rw [findI_ge]
  · intro m i hi
    show slices_IndexFunc_Sint_int__impl_IsBoard_1_l0 k _ _ (m + 1) l b (l.length : Int) (i : Int) = bif _ then _ else slices_IndexFunc_Sint_int__impl_IsBoard_1_l0 k _ _ m l b (l.length : Int) ((i + 1 : Nat) : Int)
    rw [slices_IndexFunc_Sint_int__impl_IsBoard_1_l0, dlt, d0, decide_eq_true hi, toNatC, wsucc (by omega), getD_lt hi]
    rfl
  · intro m
    show slices_IndexFunc_Sint_int__impl_IsBoard_1_l0 k _ _ (m + 1) l b (l.length : Int) (l.length : Int) = _
    rw [slices_IndexFunc_Sint_int__impl_IsBoard_1_l0, dlt, decide_eq_false (by omega)]; rfl
theorem IsBoard_eq {b : BrdT} (hs : smallB b) (K : Bool → Option R) : impl_IsBoard 4194304 b K = K (goodB b) := by
  obtain ⟨s1, s2⟩ := hs
  have s2' := s2
  obtain ⟨q1, q2, q3⟩ := s2'
  unfold impl_IsBoard goodB
  rw [IsRules_eq s1, IsMap_eq s2, notTer_eq _ _ (by omega) (by omega)]
  cases hg : goodR b.1
  · rfl
  cases hm : good b.2
  · rfl
  show K (!(b.2.2.2.1.any fun x => decide ((b.1.1.length : Int) ≤ x))) = K (b.2.2.2.1.all fun x => inB x 0 ((b.1.1.length : Int) - 1))
  congr 1
  have h0 := ter_ge hm
  rw [Bool.eq_iff_iff]
  simp only [Bool.not_eq_true', List.any_eq_false, List.all_eq_true, decide_eq_true_eq, inB_iff]
  constructor
  · intro h x hx
    have := h x hx
    have := h0 x hx
    omega
  · intro h x hx
    have := h x hx
    omega
theorem sIsBoard_eq {b : BrdT} (hs : smallB b) (K : Bool → Option R) : spec_IsBoard 4194304 b K = K (goodB b) := by unfold spec_IsBoard; rw [bGood_eq hs]
theorem law_FnExactIsBoard (b : BrdT) (w : Wf BrdTy b) (K : Bool → Option R) : laws_FnExactIsBoard 4194304 b K = K true := by
  obtain ⟨r, h1, h2⟩ := szBoard_ret w
  unfold laws_FnExactIsBoard
  rw [h1]
  rcases h2 with rfl | ⟨⟨g1, g2⟩, hs⟩
  · rfl
  · rw [decide_eq_false (by omega), cond_false, toBrd_eq hs, sIsBoard_eq hs, toBrd_eq hs, IsBoard_eq hs, toBrd_eq hs, eqBrd_self hs]
    simp
/-! ### costs -/
theorem good_brd {b : BrdT} (h : goodB b = true) : goodR b.1 = true ∧ good b.2 = true ∧ ∀ x ∈ b.2.2.2.1, 0 ≤ x ∧ x ≤ (b.1.1.length : Int) - 1 := by
  unfold goodB at h
  simp only [Bool.and_eq_true, inB_iff, List.all_eq_true] at h
  exact h
def terAt (b : BrdT) (i : Int) : TerT := List.getD b.1.1 (Int.toNat (List.getD b.2.2.2.1 (Int.toNat i) (0 : Int))) zTer
def costAt (b : BrdT) (kind i : Int) : Int := List.getD (terAt b i).2.1 (Int.toNat kind) (0 : Int)
def area (b : BrdT) : Int := b.2.1 * b.2.2.1
theorem area_ok {b : BrdT} (h : goodB b = true) : (b.2.2.2.1.length : Int) = area b ∧ 1 ≤ area b ∧ area b ≤ 100 := by
  obtain ⟨_, hm, _⟩ := good_brd h
  exact ⟨ter_len hm, area_le (good_dim hm)⟩
theorem terAt_ok {b : BrdT} (h : goodB b = true) {i : Int} (hi : 0 ≤ i ∧ i < area b) :
    (0 ≤ List.getD b.2.2.2.1 (Int.toNat i) (0 : Int) ∧ List.getD b.2.2.2.1 (Int.toNat i) (0 : Int) < (b.1.1.length : Int)) ∧ (terAt b i).2.1.length = b.1.2.1.length ∧ ∀ x ∈ (terAt b i).2.1, 0 ≤ x ∧ x ≤ 9 := by
  obtain ⟨h1, _, _⟩ := area_ok h
  obtain ⟨hr, hm, ht⟩ := good_brd h
  obtain ⟨_, _, h3, _, _⟩ := good_rul hr
  have hin : List.getD b.2.2.2.1 (Int.toNat i) (0 : Int) ∈ b.2.2.2.1 := by
    rw [getD_lt (by omega)]; exact List.getElem_mem _
  have h0 := ht _ hin
  refine ⟨by omega, ?_⟩
  have h4 := h3 (Int.toNat (List.getD b.2.2.2.1 (Int.toNat i) (0 : Int))) (by omega)
  unfold terB at h4
  simp only [Bool.and_eq_true, inB_iff, List.all_eq_true, decide_eq_true_eq] at h4
  exact ⟨h4.2.2.1, h4.2.2.2.1⟩
theorem costAt_ok {b : BrdT} (h : goodB b = true) {kind i : Int} (hi : 0 ≤ i ∧ i < area b) (hk : 0 ≤ kind ∧ kind < (b.1.2.1.length : Int)) : 0 ≤ costAt b kind i ∧ costAt b kind i ≤ 9 := by
  obtain ⟨_, h2, h3⟩ := terAt_ok h hi
  unfold costAt
  refine h3 _ ?_
  rw [getD_lt (by omega)]; exact List.getElem_mem _
theorem bCost_eq {b : BrdT} (h : goodB b = true) {kind i : Int} (hi : 0 ≤ i ∧ i < area b) (hk : 0 ≤ kind ∧ kind < (b.1.2.1.length : Int)) (K : Int → Option R) : spec_bCost b kind i K = K (costAt b kind i) := by
  obtain ⟨h1, _, _⟩ := area_ok h
  obtain ⟨g1, g2, _⟩ := terAt_ok h hi
  unfold spec_bCost spec_bTerrain
  rw [decide_eq_true hi.1, decide_eq_true (by omega : i < (b.2.2.2.1.length : Int)), decide_eq_true g1.1, decide_eq_true g1.2]
  show (bif decide (0 ≤ kind) && decide (kind < ((terAt b i).2.1.length : Int)) then K (costAt b kind i) else none) = _
  rw [g2, decide_eq_true hk.1, decide_eq_true hk.2]; rfl
theorem enterCost_eq {b : BrdT} (h : goodB b = true) {kind i : Int} (hi : 0 ≤ i ∧ i < area b) (hk : 0 ≤ kind ∧ kind < (b.1.2.1.length : Int)) (K : Int → Option R) : impl_enterCost b kind i K = K (costAt b kind i) := by
  obtain ⟨h1, _, _⟩ := area_ok h
  obtain ⟨g1, g2, _⟩ := terAt_ok h hi
  unfold impl_enterCost impl_terrainAt
  rw [decide_eq_true hi.1, decide_eq_true (by omega : i < (b.2.2.2.1.length : Int)), decide_eq_true g1.1, decide_eq_true g1.2]
  show (bif decide (0 ≤ kind) && decide (kind < ((terAt b i).2.1.length : Int)) then K (costAt b kind i) else none) = _
  rw [g2, decide_eq_true hk.1, decide_eq_true hk.2]; rfl
def bAtB (b : BrdT) (kind i : Int) : Bool := goodB b && (inB kind 0 ((b.1.2.1.length : Int) - 1) && inB i 0 (area b - 1))
theorem bAt_eq {b : BrdT} (hs : smallB b) (kind i : Int) (K : Bool → Option R) : spec_bAt 4194304 b kind i K = K (bAtB b kind i) := by
  unfold spec_bAt bAtB
  rw [bGood_eq hs]
  cases hg : goodB b
  · rfl
  obtain ⟨hr, hm, _⟩ := good_brd hg
  obtain ⟨_, h2, _⟩ := good_rul hr
  obtain ⟨_, h3, h4⟩ := area_ok hg
  rw [cond_true, w64 (by omega), l1In_eq]
  cases inB kind 0 ((b.1.2.1.length : Int) - 1)
  · rfl
  have h4' : b.2.1 * b.2.2.1 ≤ 100 := h4
  have h3' : 1 ≤ b.2.1 * b.2.2.1 := h3
  rw [cond_true, mSize_eq (good_dim hm), w64 (by omega), l1In_eq]; rfl
def kindB (b : BrdT) (kind : Int) : Bool := goodB b && inB kind 0 ((b.1.2.1.length : Int) - 1)
theorem isKindOf_eq {b : BrdT} (hs : smallB b) (kind : Int) (K : Bool → Option R) : impl_isKindOf 4194304 b kind K = K (kindB b kind) := by
  unfold impl_isKindOf kindB
  rw [IsBoard_eq hs]
  cases hg : goodB b
  · rfl
  obtain ⟨hr, hm, _⟩ := good_brd hg
  obtain ⟨_, h2, _⟩ := good_rul hr
  rw [cond_true, isIndex_eq _ _ (by omega)]; rfl
theorem sizeOf_eq (b : BrdT) (K : Int → Option R) : impl_sizeOf b K = K (b.2.2.2.1.length : Int) := rfl
theorem EnterCost_same {b : BrdT} (hs : smallB b) (kind i : Int) : ∃ v c, (∀ {R : Type} (K : Int → Bool → Option R), spec_EnterCost 4194304 b kind i K = K v c) ∧ ∀ {R : Type} (K : Int → Bool → Option R), impl_EnterCost 4194304 b kind i K = K v c := by
  cases hk : kindB b kind
  · have : bAtB b kind i = false := by
      unfold kindB at hk; unfold bAtB
      cases hg : goodB b
      · rfl
      · rw [hg] at hk
        rw [show inB kind 0 ((b.1.2.1.length : Int) - 1) = false from hk]; rfl
    exact ⟨0, false, fun K => by unfold spec_EnterCost; rw [bAt_eq hs, this]; rfl, fun K => by unfold impl_EnterCost; rw [isKindOf_eq hs, hk]; rfl⟩
  · unfold kindB at hk
    have hk' := hk
    simp only [Bool.and_eq_true, inB_iff] at hk
    obtain ⟨hg, hk⟩ := hk
    obtain ⟨g1, g2, g3⟩ := area_ok hg
    have hk2 : inB kind 0 ((b.1.2.1.length : Int) - 1) = true := inB_iff.2 hk
    have hkk : kindB b kind = true := hk'
    cases hi : inB i 0 (area b - 1)
    · have : bAtB b kind i = false := by unfold bAtB; rw [hg, hk2, hi]; rfl
      exact ⟨0, false, fun K => by unfold spec_EnterCost; rw [bAt_eq hs, this]; rfl,
        fun K => by unfold impl_EnterCost; rw [isKindOf_eq hs, hkk, sizeOf_eq, isIndex_eq _ _ (by omega), g1, hi]; rfl⟩
    · have : bAtB b kind i = true := by unfold bAtB; rw [hg, hk2, hi]; rfl
      have hi' := inB_iff.1 hi
      exact ⟨costAt b kind i, true, fun K => by unfold spec_EnterCost; rw [bAt_eq hs, this, Bool.not_true, cond_false, bCost_eq hg ⟨hi'.1, by omega⟩ ⟨hk.1, by omega⟩],
        fun K => by unfold impl_EnterCost; rw [isKindOf_eq hs, hkk, sizeOf_eq, isIndex_eq _ _ (by omega), g1, hi, Bool.not_true, cond_false, cond_false, enterCost_eq hg ⟨hi'.1, by omega⟩ ⟨hk.1, by omega⟩]⟩
theorem law_FnExactEnterCost (b : BrdT) (w : Wf BrdTy b) (kind : Int) (w2 : Wf (.int .i64) kind) (i : Int) (w3 : Wf (.int .i64) i) (K : Bool → Option R) : laws_FnExactEnterCost 4194304 b kind i K = K true := by
  obtain ⟨r, h1, h2⟩ := szBoard_ret w
  unfold laws_FnExactEnterCost
  rw [h1]
  rcases h2 with rfl | ⟨⟨g1, g2⟩, hs⟩
  · rfl
  · obtain ⟨v, c, e1, e2⟩ := EnterCost_same hs kind i
    rw [decide_eq_false (by omega), cond_false, toBrd_eq hs, e1, toBrd_eq hs, e2, toBrd_eq hs, eqBrd_self hs]
    simp
end
end Go.Lg
/- States: what the functions answer; their laws. -/
set_option linter.unusedSimpArgs false
set_option linter.unusedVariables false
namespace Go.Lg
open Go Go.Ev
section
variable {R α : Type}
abbrev UntT := Int × Int × Int × Int
abbrev StaT := Int × Int × List UntT
abbrev zUnt : UntT := ((0 : Int), ((0 : Int), ((0 : Int), (0 : Int))))
abbrev StaTy : Ty := .st (.pair (.int .i64) (.pair (.int .i64) (.sl (.st (.pair (.int .i64) (.pair (.int .i64) (.pair (.int .i64) (.int .i64))))))))
/-! ### lists of places -/
/-- The places, from i on, of those that are so. -/
def idxF (p : α → Bool) : List α → Int → List Int
  | [], _ => []
  | x :: xs, i => if p x then i :: idxF p xs (i + 1) else idxF p xs (i + 1)
theorem idxF_len (p : α → Bool) : ∀ (x : List α) (i : Int), (idxF p x i).length = x.countP p
  | [], i => rfl
  | x :: xs, i => by
    unfold idxF
    cases h : p x
    · simp only [Bool.false_eq_true, if_false]
      rw [idxF_len p xs, List.countP_cons_of_neg (by simp [h])]
    · simp only [if_true, List.length_cons]
      rw [idxF_len p xs, List.countP_cons_of_pos h]
theorem idxF_mem (p : α → Bool) : ∀ (x : List α) (i : Int), 0 ≤ i → ∀ j ∈ idxF p x i, i ≤ j ∧ j < i + x.length
  | [], i, _, j, h => by cases h
  | x :: xs, i, hi, j, h => by
    unfold idxF at h
    simp only [List.length_cons]
    split at h
    · rcases List.mem_cons.1 h with rfl | h
      · omega
      · have := idxF_mem p xs (i + 1) (by omega) j h
        omega
    · have := idxF_mem p xs (i + 1) (by omega) j h
      omega
/-- A loop that gathers the places. -/
theorem loop_idx (L : Nat → Nat → List Int → Option R) (x : List α) (p : α → Bool) (K : List Int → Option R) (hl : x.length ≤ 137438953472)
    (hs : ∀ m i out (h : i < x.length), out.length ≤ i → L (m + 1) i out = bif p x[i] then L m (i + 1) (out ++ [(i : Int)]) else L m (i + 1) out) (he : ∀ m out, L (m + 1) x.length out = K out) {m : Nat} (hm : x.length < m) : L m 0 [] = K (idxF p x 0) := by
  have : ∀ m i out, i ≤ x.length → out.length ≤ i → x.length - i < m → L m i out = K (out ++ idxF p (x.drop i) (i : Int)) := by
    intro m
    induction m with
    | zero => intro i out h1 h2 h3; omega
    | succ m ih =>
      intro i out h1 h2 h3
      rcases Nat.lt_or_ge i x.length with h | h
      · rw [hs m i out h h2, List.drop_eq_getElem_cons h]
        show _ = K (out ++ (if p x[i] = true then (i : Int) :: idxF p (x.drop (i + 1)) ((i : Int) + 1) else idxF p (x.drop (i + 1)) ((i : Int) + 1)))
        cases hp : p x[i]
        · rw [cond_false, ih (i + 1) out (by omega) (by omega) (by omega)]; rfl
        · rw [cond_true, ih (i + 1) _ (by omega) (by simp; omega) (by omega)]
          simp
      · have : i = x.length := by omega
        subst this
        rw [he, List.drop_length]; simp [idxF]
  have := this m 0 [] (Nat.zero_le _) (Nat.le_refl _) (by omega)
  rwa [List.drop_zero] at this
/-- A fold over the places is one over the list. -/
theorem foldl_idx {σ : Type} (p : α → Bool) (z : α) (g : σ → α → σ) (y : List α) : ∀ (x : List α) (i : Nat) (s : σ), (∀ j, j < x.length → y[i + j]? = x[j]?) →
    (idxF p x (i : Int)).foldl (fun s j => g s (List.getD y (Int.toNat j) z)) s = x.foldl (fun s u => bif p u then g s u else s) s
  | [], i, s, h => rfl
  | x :: xs, i, s, h => by
    have h0 := h 0 (by simp)
    simp only [Nat.add_zero, List.getElem?_cons_zero] at h0
    have hr : ∀ j, j < xs.length → y[(i + 1) + j]? = xs[j]? := fun j hj => by
      have := h (j + 1) (by simp; omega)
      simp only [List.getElem?_cons_succ] at this
      rw [show i + 1 + j = i + (j + 1) by omega]; exact this
    unfold idxF
    cases hp : p x
    · simp only [Bool.false_eq_true, if_false, List.foldl_cons, hp, cond_false]
      exact foldl_idx p z g y xs (i + 1) s hr
    · simp only [if_true, List.foldl_cons, hp, cond_true]
      rw [toNatC, List.getD_eq_getElem?_getD, h0]
      exact foldl_idx p z g y xs (i + 1) _ hr
theorem foldl_idx0 {σ : Type} (p : α → Bool) (z : α) (g : σ → α → σ) (x : List α) (s : σ) : (idxF p x 0).foldl (fun s j => g s (List.getD x (Int.toNat j) z)) s = x.foldl (fun s u => bif p u then g s u else s) s :=
  foldl_idx p z g x x 0 s (fun j _ => by rw [Nat.zero_add])
/-! ### sizes, copies, equality -/
def smallS (s : StaT) : Prop := s.2.2.length ≤ 1048576
theorem szState_ret {s : StaT} (w : Wf StaTy s) (left : Int) (hl : inL left) : ∃ r : Int, (∀ {R : Type} (K : Int → Option R), laws_szState s left K = K r) ∧ (r = -1 ∨ (inL r ∧ smallS s)) := by
  obtain ⟨_, _, w3⟩ := w
  have w4 : s.2.2.length ≤ 9223372036854775807 := (wfSl w3).1
  have hl' := hl
  unfold inL at hl'
  by_cases h : (s.2.2.length : Int) ≤ left
  · refine ⟨left - s.2.2.length, fun K => ?_, .inr ⟨⟨by omega, by omega⟩, by unfold smallS; omega⟩⟩
    unfold laws_szState laws_szUnitS
    rw [w64 (by omega), decide_eq_false (by omega), cond_false]
    show (bif decide (left - (s.2.2.length : Int) < 0) then K (-1) else K (left - (s.2.2.length : Int))) = _
    rw [decide_eq_false (by omega)]; rfl
  · refine ⟨-1, fun K => ?_, .inl rfl⟩
    unfold laws_szState laws_szUnitS
    rw [w64 (by omega), decide_eq_true (by omega)]; rfl
theorem toUnitS_eq {k : Nat} (a : List UntT) (h : a.length < k) (hb : a.length ≤ 137438953472) (K : List UntT → Option R) : laws_toUnitS k a K = K a := by
  refine toS_eq a zUnt h hb (fun K => laws_toUnitS k a K) (fun m a i out => laws_toUnitS_l0 k (fun x => K x) m a i out) K rfl ?_ ?_
  · intro m i out hi ho
    show laws_toUnitS_l0 k _ (m + 1) a (i : Int) out = laws_toUnitS_l0 k _ m a ((i + 1 : Nat) : Int) _
    rw [laws_toUnitS_l0, dlt, d0, dlt, decide_eq_true hi, decide_eq_true (by omega : i < out.length), toNatC, getD_lt hi, wsucc (by omega)]
    rfl
  · intro m out
    show laws_toUnitS_l0 k _ (m + 1) a (a.length : Int) out = K out
    rw [laws_toUnitS_l0, dlt, decide_eq_false (by omega)]; rfl
theorem toSta_eq {s : StaT} (hs : smallS s) (K : StaT → Option R) : laws_toState 4194304 s K = K s := by
  unfold smallS at hs
  unfold laws_toState
  rw [toUnitS_eq _ (by omega) (by omega)]
theorem eqUnitS_self {k : Nat} (a : List UntT) (h : a.length < k) (hb : a.length ≤ 137438953472) (K : Bool → Option R) : laws_eqUnitS k a a K = K true := by
  refine eqS_self a h (fun K => laws_eqUnitS k a a K) (fun m a b i => laws_eqUnitS_l0 k (K true) (fun x => K x) m a b i) K rfl ?_ ?_
  · intro m i hi
    show laws_eqUnitS_l0 k _ _ (m + 1) a a (i : Int) = laws_eqUnitS_l0 k _ _ m a a ((i + 1 : Nat) : Int)
    rw [laws_eqUnitS_l0, dlt, d0, decide_eq_true hi, wsucc (by omega)]
    unfold laws_eqUnit
    rw [decide_eq_true rfl, decide_eq_true rfl, decide_eq_true rfl, decide_eq_true rfl]
    rfl
  · intro m
    show laws_eqUnitS_l0 k _ _ (m + 1) a a (a.length : Int) = K true
    rw [laws_eqUnitS_l0, dlt, decide_eq_false (by omega)]; rfl
theorem eqSta_self {s : StaT} (hs : smallS s) (K : Bool → Option R) : laws_eqState 4194304 s s K = K true := by
  unfold smallS at hs
  unfold laws_eqState
  rw [decide_eq_true rfl, decide_eq_true rfl, Bool.not_true, cond_false, cond_false, eqUnitS_self _ (by omega) (by omega)]; rfl
/-! ### one unit -/
def kndAt (b : BrdT) (u : UntT) : KndT := List.getD b.1.2.1 (Int.toNat u.2.1) zKnd
def unitB (b : BrdT) (u : UntT) : Bool := inB u.1 0 1 && (inB u.2.1 0 ((b.1.2.1.length : Int) - 1) && (inB u.2.2.2 0 (kndAt b u).2.2.2.1 && (decide (u.2.2.1 = -1) || (decide (0 < u.2.2.2) && (inB u.2.2.1 0 (area b - 1) && decide (0 < costAt b u.2.1 u.2.2.1))))))
theorem sUnit_eq {b : BrdT} (hg : goodB b = true) (u : UntT) (K : Bool → Option R) : spec_sUnit b u K = K (unitB b u) := by
  obtain ⟨hr, hm, _⟩ := good_brd hg
  obtain ⟨_, h2, _⟩ := good_rul hr
  obtain ⟨a1, a2, a3⟩ := area_ok hg
  unfold spec_sUnit unitB
  rw [l1In_eq, w64 (n := (b.1.2.1.length : Int) - 1) (by omega), l1In_eq]
  cases inB u.1 0 1
  · rfl
  cases hk : inB u.2.1 0 ((b.1.2.1.length : Int) - 1)
  · rfl
  have hk' := inB_iff.1 hk
  simp only [Bool.not_true, cond_false, Bool.true_and]
  rw [decide_eq_true hk'.1, decide_eq_true (by omega : u.2.1 < (b.1.2.1.length : Int))]
  simp only [Bool.and_self, cond_true]
  rw [l1In_eq]
  show (bif !inB u.2.2.2 0 (kndAt b u).2.2.2.1 then _ else _) = _
  cases inB u.2.2.2 0 (kndAt b u).2.2.2.1
  · rfl
  simp only [Bool.not_true, cond_false, Bool.true_and]
  cases decide (u.2.2.1 = -1)
  · simp only [cond_false, Bool.false_or]
    cases decide (0 < u.2.2.2)
    · rfl
    simp only [cond_true, Bool.true_and]
    rw [mSize_eq (good_dim hm)]
    show spec_l1In u.2.2.1 0 (IntKind.wrap .i64 (area b - 1)) _ = _
    rw [w64 (by omega), l1In_eq]
    cases ha : inB u.2.2.1 0 (area b - 1)
    · rfl
    have ha' := inB_iff.1 ha
    rw [cond_true, bCost_eq hg ⟨ha'.1, by omega⟩ ⟨hk'.1, by omega⟩]; rfl
  · rfl
theorem goodUnit_eq {b : BrdT} (hg : goodB b = true) (u : UntT) (K : Bool → Option R) : impl_goodUnit b u K = K (unitB b u) := by
  obtain ⟨hr, hm, _⟩ := good_brd hg
  obtain ⟨_, h2, _⟩ := good_rul hr
  obtain ⟨a1, a2, a3⟩ := area_ok hg
  unfold impl_goodUnit unitB impl_isSide
  rw [inRange_eq, isIndex_eq _ _ (by omega)]
  cases inB u.1 0 1
  · rfl
  cases hk : inB u.2.1 0 ((b.1.2.1.length : Int) - 1)
  · rfl
  have hk' := inB_iff.1 hk
  simp only [Bool.not_true, cond_false, Bool.true_and]
  rw [decide_eq_true hk'.1, decide_eq_true (by omega : u.2.1 < (b.1.2.1.length : Int))]
  simp only [Bool.and_self, cond_true]
  rw [inRange_eq]
  show (bif !inB u.2.2.2 0 (kndAt b u).2.2.2.1 then _ else _) = _
  cases inB u.2.2.2 0 (kndAt b u).2.2.2.1
  · rfl
  simp only [Bool.not_true, cond_false, Bool.true_and]
  cases decide (u.2.2.1 = -1)
  · simp only [cond_false, Bool.false_or]
    cases decide (0 < u.2.2.2)
    · rfl
    simp only [cond_true, Bool.true_and]
    rw [sizeOf_eq, a1, isIndex_eq _ _ (by omega)]
    cases ha : inB u.2.2.1 0 (area b - 1)
    · rfl
    have ha' := inB_iff.1 ha
    have hc := costAt_ok hg (kind := u.2.1) (i := u.2.2.1) ⟨ha'.1, by omega⟩ ⟨hk'.1, by omega⟩
    rw [cond_true, enterCost_eq hg ⟨ha'.1, by omega⟩ ⟨hk'.1, by omega⟩]
    congr 1
    rw [Bool.true_and, ← decide_not]
    exact decide_eq_decide.2 (by omega)
  · rfl
theorem unit_ok {b : BrdT} {u : UntT} (h : unitB b u = true) : (u.1 = 0 ∨ u.1 = 1) ∧ (0 ≤ u.2.1 ∧ u.2.1 < (b.1.2.1.length : Int)) ∧ -1 ≤ u.2.2.1 ∧ (0 ≤ u.2.2.1 → u.2.2.1 < area b) := by
  unfold unitB at h
  simp only [Bool.and_eq_true, Bool.or_eq_true, inB_iff, decide_eq_true_eq] at h
  obtain ⟨h1, h2, h3, h4⟩ := h
  refine ⟨by omega, by omega, ?_, fun h => ?_⟩ <;> rcases h4 with h4 | h4 <;> omega
/-! ### states -/
def onB (i side : Int) (u : UntT) : Bool := decide (u.2.2.1 = i) && decide (u.1 = side)
def cnt (l : List UntT) (i side : Int) : Nat := l.countP (onB i side)
theorem sAt_eq {k : Nat} {s : StaT} (h : s.2.2.length < k) (hb : s.2.2.length ≤ 137438953472) (i side : Int) (K : List Int → Option R) : spec_sAt k s i side K = K (idxF (onB i side) s.2.2 0) := by
  unfold spec_sAt
  refine loop_idx (fun m j out => spec_sAt_l0 k (fun x => K x) m i side s.2.2 (s.2.2.length : Int) (j : Int) out) s.2.2 (onB i side) K hb ?_ ?_ h
  · intro m j out hj ho
    show spec_sAt_l0 k _ (m + 1) i side s.2.2 (s.2.2.length : Int) (j : Int) out = bif _ then spec_sAt_l0 k _ m i side s.2.2 (s.2.2.length : Int) ((j + 1 : Nat) : Int) (out ++ [(j : Int)]) else spec_sAt_l0 k _ m i side s.2.2 (s.2.2.length : Int) ((j + 1 : Nat) : Int) out
    rw [spec_sAt_l0, dlt, d0, decide_eq_true hj, toNatC, getD_lt hj, wsucc (by omega), decide_eq_true (by unfold maxGrow; simp; omega : out.length + [(j : Int)].length ≤ maxGrow)]
    unfold onB
    cases decide (s.2.2[j].2.2.1 = i)
    · rfl
    cases decide (s.2.2[j].1 = side) <;> rfl
  · intro m out
    show spec_sAt_l0 k _ (m + 1) i side s.2.2 (s.2.2.length : Int) (s.2.2.length : Int) out = _
    rw [spec_sAt_l0, dlt, decide_eq_false (by omega)]; rfl
def freeB (b : BrdT) (l : List UntT) (u : UntT) : Bool := decide (u.2.2.1 < 0) || (decide (cnt l u.2.2.1 (1 - u.1) = 0) && decide ((cnt l u.2.2.1 u.1 : Int) ≤ b.1.2.2.1))
theorem sGood_l0_eq {k q : Nat} {b : BrdT} {s : StaT} (hg : goodB b = true) (hb : s.2.2.length ≤ 137438953472) (hq : s.2.2.length < q) (K0 : BrdT → StaT → Option R) (K1 : Bool → Option R) :
    spec_sGood_l0 k K0 K1 q s.2.2 (s.2.2.length : Int) 0 b s = bif s.2.2.all (unitB b) then K0 b s else K1 false := by
  refine loop_all0 (fun m i => spec_sGood_l0 k K0 K1 m s.2.2 (s.2.2.length : Int) (i : Int) b s) s.2.2 (unitB b) (K0 b s) (K1 false) ?_ ?_ hq
  · intro m i hi
    show spec_sGood_l0 k K0 K1 (m + 1) s.2.2 (s.2.2.length : Int) (i : Int) b s = bif _ then spec_sGood_l0 k K0 K1 m s.2.2 (s.2.2.length : Int) ((i + 1 : Nat) : Int) b s else _
    rw [spec_sGood_l0, dlt, d0, decide_eq_true hi, toNatC, getD_lt hi, wsucc (by omega), sUnit_eq hg]
    cases unitB b s.2.2[i] <;> rfl
  · intro m
    show spec_sGood_l0 k K0 K1 (m + 1) s.2.2 (s.2.2.length : Int) (s.2.2.length : Int) b s = _
    rw [spec_sGood_l0, dlt, decide_eq_false (by omega)]; rfl
theorem sGood_l1_eq {k q : Nat} {b : BrdT} {s : StaT} (hu : ∀ u ∈ s.2.2, unitB b u = true) (hk : s.2.2.length < k) (hb : s.2.2.length ≤ 137438953472) (hq : s.2.2.length < q) (K0 : Option R) (K1 : Bool → Option R) :
    spec_sGood_l1 k K0 K1 q s.2.2 (s.2.2.length : Int) 0 b s = bif s.2.2.all (freeB b s.2.2) then K0 else K1 false := by
  refine loop_all0 (fun m i => spec_sGood_l1 k K0 K1 m s.2.2 (s.2.2.length : Int) (i : Int) b s) s.2.2 (freeB b s.2.2) K0 (K1 false) ?_ ?_ hq
  · intro m i hi
    show spec_sGood_l1 k K0 K1 (m + 1) s.2.2 (s.2.2.length : Int) (i : Int) b s = bif _ then spec_sGood_l1 k K0 K1 m s.2.2 (s.2.2.length : Int) ((i + 1 : Nat) : Int) b s else _
    obtain ⟨u1, u2, u3, u4⟩ := unit_ok (hu _ (List.getElem_mem hi))
    rw [spec_sGood_l1, dlt, d0, decide_eq_true hi, toNatC, getD_lt hi, wsucc (by omega), w64 (by omega), sAt_eq hk hb, sAt_eq hk hb, idxF_len, idxF_len]
    unfold freeB
    show (bif decide (0 ≤ s.2.2[i].2.2.1) then (bif decide ((0 : Int) < ((cnt s.2.2 s.2.2[i].2.2.1 (1 - s.2.2[i].1) : Nat) : Int)) then K1 false else bif decide (b.1.2.2.1 < ((cnt s.2.2 s.2.2[i].2.2.1 s.2.2[i].1 : Nat) : Int)) then K1 false else _) else _) = _
    by_cases h0 : 0 ≤ s.2.2[i].2.2.1
    · rw [decide_eq_true h0, decide_eq_false (by omega : ¬ s.2.2[i].2.2.1 < 0)]
      by_cases h1 : cnt s.2.2 s.2.2[i].2.2.1 (1 - s.2.2[i].1) = 0
      · rw [decide_eq_false (by omega), decide_eq_true h1]
        by_cases h2 : (cnt s.2.2 s.2.2[i].2.2.1 s.2.2[i].1 : Int) ≤ b.1.2.2.1
        · rw [decide_eq_false (by omega), decide_eq_true h2]; rfl
        · rw [decide_eq_true (by omega), decide_eq_false h2]; rfl
      · rw [decide_eq_true (by omega), decide_eq_false h1]; rfl
    · rw [decide_eq_false h0, decide_eq_true (by omega : s.2.2[i].2.2.1 < 0)]; rfl
  · intro m
    show spec_sGood_l1 k K0 K1 (m + 1) s.2.2 (s.2.2.length : Int) (s.2.2.length : Int) b s = _
    rw [spec_sGood_l1, dlt, decide_eq_false (by omega)]; rfl
def headB (b : BrdT) (s : StaT) : Bool := inB s.1 0 b.1.2.2.2.2.2.2 && (inB s.2.1 0 2 && !decide ((12 : Int) < (s.2.2.length : Int)))
def goodS (b : BrdT) (s : StaT) : Bool := headB b s && (s.2.2.all (unitB b) && s.2.2.all (freeB b s.2.2))
theorem sGood_eq {b : BrdT} {s : StaT} (hb : smallB b) (hs : smallS s) (K : Bool → Option R) : spec_sGood 4194304 b s K = K (goodB b && goodS b s) := by
  unfold smallS at hs
  unfold spec_sGood goodS headB
  rw [bGood_eq hb, l1In_eq, l1In_eq]
  cases hg : goodB b
  · rfl
  rw [sGood_l0_eq hg (by omega) (by omega)]
  cases inB s.1 0 b.1.2.2.2.2.2.2
  · rfl
  cases inB s.2.1 0 2
  · rfl
  cases decide ((12 : Int) < (s.2.2.length : Int))
  · simp only [Bool.not_true, cond_false, Bool.not_false, Bool.true_and, Bool.and_true]
    cases hu : s.2.2.all (unitB b)
    · rfl
    · rw [cond_true, sGood_l1_eq (List.all_eq_true.1 hu) (by omega) (by omega) (by omega)]
      cases s.2.2.all (freeB b s.2.2) <;> rfl
  · rfl
end
end Go.Lg
/- States: the program's count; the laws. -/
set_option linter.unusedSimpArgs false
set_option linter.unusedVariables false
namespace Go.Lg
open Go Go.Ev
section
variable {R α σ : Type}
/-- A loop that carries a state and stops at the first that is bad. -/
theorem loop_allS (L : Nat → Nat → σ → Option R) (n : Nat) (p : Nat → Bool) (f : Nat → σ → σ) (P : Nat → σ → Prop) (A B : Option R)
    (hs : ∀ m i s, i < n → P i s → L (m + 1) i s = bif p i then L m (i + 1) (f i s) else B) (hP : ∀ i s, i < n → P i s → p i = true → P (i + 1) (f i s)) (he : ∀ m s, P n s → L (m + 1) n s = A) :
    ∀ m i s, P i s → i ≤ n → n - i < m → L m i s = bif ((List.range n).drop i).all p then A else B := by
  intro m
  induction m with
  | zero => intro i s h0 h1 h2; omega
  | succ m ih =>
    intro i s h0 h1 h2
    rcases Nat.lt_or_ge i n with h | h
    · rw [hs m i s h h0, List.drop_eq_getElem_cons (by simpa using h), List.all_cons, List.getElem_range]
      cases hp : p i
      · rfl
      · rw [cond_true, ih (i + 1) _ (hP i s h h0 hp) (by omega) (by omega)]; rfl
    · have : i = n := by omega
      subst this
      rw [he m s h0, List.drop_of_length_le (by simp)]; rfl
theorem cnt_succ (l : List UntT) (a s : Int) (i : Nat) (h : i < l.length) : cnt (l.take (i + 1)) a s = cnt (l.take i) a s + if onB a s l[i] = true then 1 else 0 := by
  unfold cnt
  rw [List.take_succ_eq_append_getElem h, List.countP_append, List.countP_singleton]
theorem cnt_take_le (l : List UntT) (a s : Int) (i : Nat) : cnt (l.take i) a s ≤ cnt l a s := by
  unfold cnt
  have := List.take_append_drop i l
  conv => rhs; rw [← this, List.countP_append]
  omega
abbrev zRow : List Int := List.replicate 2 (0 : Int)
def bump (c : List (List Int)) (a side : Int) : List (List Int) := List.set c (Int.toNat a) (List.set (List.getD c (Int.toNat a) zRow) (Int.toNat side) (IntKind.wrap .i64 ((List.getD (List.getD c (Int.toNat a) zRow) (Int.toNat side) (0 : Int)) + (1 : Int))))
def tallied (n : Int) (l : List UntT) (c : List (List Int)) : Prop := (c.length : Int) = n ∧ ∀ a : Nat, a < c.length → (List.getD c a zRow).length = 2 ∧ List.getD (List.getD c a zRow) 0 0 = (cnt l (a : Int) 0 : Int) ∧ List.getD (List.getD c a zRow) 1 0 = (cnt l (a : Int) 1 : Int)
theorem tallied_at {n : Int} {l : List UntT} {c : List (List Int)} (h : tallied n l c) {a side : Int} (h0 : 0 ≤ a) (h1 : a < n) (hs : side = 0 ∨ side = 1) : List.getD (List.getD c (Int.toNat a) zRow) (Int.toNat side) (0 : Int) = (cnt l a side : Int) := by
  obtain ⟨g1, g2⟩ := h
  obtain ⟨_, e0, e1⟩ := g2 (Int.toNat a) (by omega)
  have ea : ((Int.toNat a : Nat) : Int) = a := by omega
  rw [ea] at e0 e1
  rcases hs with rfl | rfl
  · exact e0
  · exact e1
theorem getD_set_same {l : List α} {i : Nat} {v d : α} (h : i < l.length) : (l.set i v).getD i d = v := by
  rw [List.getD_eq_getElem?_getD, List.getElem?_set_self (by simpa using h)]; rfl
theorem getD_set_other {l : List α} {i j : Nat} {v d : α} (h : i ≠ j) : (l.set i v).getD j d = l.getD j d := by
  rw [List.getD_eq_getElem?_getD, List.getElem?_set_ne h, List.getD_eq_getElem?_getD]
theorem tallied_bump {n : Int} {l : List UntT} {c : List (List Int)} {i : Nat} (hi : i < l.length) (hl : l.length ≤ 137438953472) (h : tallied n (l.take i) c) (h0 : 0 ≤ l[i].2.2.1) (h1 : l[i].2.2.1 < n) (hs : l[i].1 = 0 ∨ l[i].1 = 1) : tallied n (l.take (i + 1)) (bump c l[i].2.2.1 l[i].1) := by
  have hh := h
  obtain ⟨g1, g2⟩ := h
  have hat := tallied_at hh h0 h1 hs
  have hle : cnt (l.take i) l[i].2.2.1 l[i].1 ≤ 137438953472 := by
    have : cnt (l.take i) l[i].2.2.1 l[i].1 ≤ (l.take i).length := List.countP_le_length
    have : (l.take i).length ≤ l.length := by simp; omega
    omega
  unfold bump
  rw [hat, w64 (by omega)]
  refine ⟨by rw [List.length_set]; exact g1, fun a ha => ?_⟩
  rw [List.length_set] at ha
  obtain ⟨e0, e1, e2⟩ := g2 a ha
  rw [cnt_succ l _ _ i hi, cnt_succ l _ _ i hi]
  by_cases hae : Int.toNat l[i].2.2.1 = a
  · subst hae
    rw [getD_set_same ha]
    have ea : ((Int.toNat l[i].2.2.1 : Nat) : Int) = l[i].2.2.1 := by omega
    rw [ea] at e1 e2 ⊢
    rcases hs with hs | hs
    · rw [hs]
      refine ⟨by rw [List.length_set]; exact e0, ?_, ?_⟩
      · show (List.set (List.getD c (Int.toNat l[i].2.2.1) zRow) 0 _).getD 0 0 = _
        rw [getD_set_same (by omega), if_pos (by unfold onB; simp [hs])]; omega
      · show (List.set (List.getD c (Int.toNat l[i].2.2.1) zRow) 0 _).getD 1 0 = _
        rw [getD_set_other (by omega), if_neg (by unfold onB; simp [hs]), e2]; omega
    · rw [hs]
      refine ⟨by rw [List.length_set]; exact e0, ?_, ?_⟩
      · show (List.set (List.getD c (Int.toNat l[i].2.2.1) zRow) 1 _).getD 0 0 = _
        rw [getD_set_other (by omega), if_neg (by unfold onB; simp [hs]), e1]; omega
      · show (List.set (List.getD c (Int.toNat l[i].2.2.1) zRow) 1 _).getD 1 0 = _
        rw [getD_set_same (by omega), if_pos (by unfold onB; simp [hs])]; omega
  · rw [getD_set_other hae]
    have hne : ¬ l[i].2.2.1 = (a : Int) := by omega
    refine ⟨e0, ?_, ?_⟩
    · rw [if_neg (by unfold onB; simp [hne]), e1]; omega
    · rw [if_neg (by unfold onB; simp [hne]), e2]; omega
theorem tallied_skip {n : Int} {l : List UntT} {c : List (List Int)} {i : Nat} (hi : i < l.length) (h : tallied n (l.take i) c) (h0 : l[i].2.2.1 < 0) : tallied n (l.take (i + 1)) c := by
  obtain ⟨g1, g2⟩ := h
  refine ⟨g1, fun a ha => ?_⟩
  obtain ⟨e0, e1, e2⟩ := g2 a ha
  rw [cnt_succ l _ _ i hi, cnt_succ l _ _ i hi]
  have hne : ¬ l[i].2.2.1 = (a : Int) := by omega
  refine ⟨e0, ?_, ?_⟩
  · rw [if_neg (by unfold onB; simp [hne]), e1]; omega
  · rw [if_neg (by unfold onB; simp [hne]), e2]; omega
/-- The test at a place, by those up to it. -/
def stepB (b : BrdT) (l : List UntT) (i : Nat) : Bool := unitB b (List.getD l i zUnt) && (decide ((List.getD l i zUnt).2.2.1 < 0) ||
  (decide (cnt (l.take (i + 1)) (List.getD l i zUnt).2.2.1 (1 - (List.getD l i zUnt).1) = 0) && decide ((cnt (l.take (i + 1)) (List.getD l i zUnt).2.2.1 (List.getD l i zUnt).1 : Int) ≤ b.1.2.2.1)))
def bumpAt (l : List UntT) (i : Nat) (c : List (List Int)) : List (List Int) := if (List.getD l i zUnt).2.2.1 < 0 then c else bump c (List.getD l i zUnt).2.2.1 (List.getD l i zUnt).1
theorem goodState_l0_eq {k q : Nat} {b : BrdT} {l : List UntT} (hg : goodB b = true) (hb : l.length ≤ 137438953472) (hq : l.length < q) (c : List (List Int)) (hc : tallied (area b) [] c) (K0 : Option R) (K1 : Bool → Option R) :
    impl_goodState_l0 k K0 K1 q l (l.length : Int) 0 b c = bif (List.range l.length).all (stepB b l) then K0 else K1 false := by
  refine (loop_allS (fun m i c => impl_goodState_l0 k K0 K1 m l (l.length : Int) (i : Int) b c) l.length (stepB b l) (bumpAt l) (fun i c => tallied (area b) (l.take i) c) K0 (K1 false) ?_ ?_ ?_ q 0 c ?_ (Nat.zero_le _) (by omega)).trans ?_
  · intro m i c hi ht
    show impl_goodState_l0 k K0 K1 (m + 1) l (l.length : Int) (i : Int) b c = bif _ then impl_goodState_l0 k K0 K1 m l (l.length : Int) ((i + 1 : Nat) : Int) b (bumpAt l i c) else _
    rw [impl_goodState_l0, dlt, d0, decide_eq_true hi, toNatC, wsucc (by omega), goodUnit_eq hg]
    unfold stepB bumpAt
    rw [getD_lt hi]
    cases hu : unitB b l[i]
    · rfl
    obtain ⟨u1, u2, u3, u4⟩ := unit_ok hu
    by_cases h0 : l[i].2.2.1 < 0
    · rw [decide_eq_true h0, if_pos h0]; rfl
    · have h1 := u4 (by omega)
      have ht2 := tallied_bump hi hb ht (by omega) h1 u1
      have e1 := tallied_at ht2 (a := l[i].2.2.1) (side := 1 - l[i].1) (by omega) h1 (by omega)
      have e2 := tallied_at ht2 (a := l[i].2.2.1) (side := l[i].1) (by omega) h1 u1
      rw [decide_eq_false h0, if_neg h0]
      simp only [Bool.not_true, cond_false, cond_true, Bool.and_self, Bool.true_and, Bool.false_or, List.length_set]
      rw [decide_eq_true (by omega : 0 ≤ l[i].2.2.1), ht.1, decide_eq_true h1, decide_eq_true (by omega : (0 : Int) ≤ l[i].1), decide_eq_true (by omega : l[i].1 < 2), w64 (n := 1 - l[i].1) (by omega), decide_eq_true (by omega : (0 : Int) ≤ 1 - l[i].1), decide_eq_true (by omega : 1 - l[i].1 < 2)]
      simp only [Bool.not_true, cond_false, cond_true, Bool.and_self]
      show (bif decide ((0 : Int) < List.getD (List.getD (bump c l[i].2.2.1 l[i].1) (Int.toNat l[i].2.2.1) zRow) (Int.toNat (1 - l[i].1)) (0 : Int)) then K1 false else bif decide (b.1.2.2.1 < List.getD (List.getD (bump c l[i].2.2.1 l[i].1) (Int.toNat l[i].2.2.1) zRow) (Int.toNat l[i].1) (0 : Int)) then K1 false else impl_goodState_l0 k K0 K1 m l (l.length : Int) ((i + 1 : Nat) : Int) b (bump c l[i].2.2.1 l[i].1)) = _
      rw [e1, e2]
      by_cases h2 : cnt (l.take (i + 1)) l[i].2.2.1 (1 - l[i].1) = 0
      · rw [decide_eq_false (by omega), decide_eq_true h2]
        by_cases h3 : (cnt (l.take (i + 1)) l[i].2.2.1 l[i].1 : Int) ≤ b.1.2.2.1
        · rw [decide_eq_false (by omega), decide_eq_true h3]; rfl
        · rw [decide_eq_true (by omega), decide_eq_false h3]; rfl
      · rw [decide_eq_true (by omega), decide_eq_false h2]; rfl
  · intro i c hi ht hp
    unfold stepB at hp
    unfold bumpAt
    rw [getD_lt hi] at hp ⊢
    simp only [Bool.and_eq_true] at hp
    obtain ⟨u1, u2, u3, u4⟩ := unit_ok hp.1
    split
    · rename_i h0
      exact tallied_skip hi ht h0
    · rename_i h0
      exact tallied_bump hi hb ht (by omega) (u4 (by omega)) u1
  · intro m c _
    show impl_goodState_l0 k K0 K1 (m + 1) l (l.length : Int) (l.length : Int) b c = _
    rw [impl_goodState_l0, dlt, decide_eq_false (by omega)]; rfl
  · exact hc
  · rfl
theorem cnt_pos {l : List UntT} {a s : Int} (h : 0 < cnt l a s) : ∃ i, ∃ hi : i < l.length, onB a s l[i] = true := by
  unfold cnt at h
  obtain ⟨u, hu, h1⟩ := List.countP_pos_iff.1 h
  obtain ⟨i, hi, e⟩ := List.getElem_of_mem hu
  exact ⟨i, hi, by rw [e]; exact h1⟩
/-- The last one of its kind is counted with all. -/
theorem cnt_last {l : List UntT} {a s : Int} : ∀ n, n ≤ l.length → 0 < cnt (l.take n) a s → ∃ i, i < n ∧ ∃ hi : i < l.length, onB a s l[i] = true ∧ cnt (l.take (i + 1)) a s = cnt (l.take n) a s
  | 0, _, h => by simp [cnt] at h
  | n + 1, hn, h => by
    have e := cnt_succ l a s n (by omega)
    cases ho : onB a s l[n]
    · rw [ho] at e
      simp only [Bool.false_eq_true, if_false, Nat.add_zero] at e
      rw [e] at h
      obtain ⟨i, h1, h2, h3, h4⟩ := cnt_last n (by omega) h
      exact ⟨i, by omega, h2, h3, by rw [h4, e]⟩
    · exact ⟨n, by omega, by omega, ho, rfl⟩
theorem step_all (b : BrdT) (l : List UntT) : (List.range l.length).all (stepB b l) = (l.all (unitB b) && l.all (freeB b l)) := by
  rw [Bool.eq_iff_iff]
  simp only [List.all_eq_true, List.mem_range, Bool.and_eq_true]
  constructor
  · intro h
    have hu : ∀ u ∈ l, unitB b u = true := by
      intro u hu
      obtain ⟨i, hi, rfl⟩ := List.getElem_of_mem hu
      have := h i hi
      unfold stepB at this
      rw [getD_lt hi] at this
      simp only [Bool.and_eq_true] at this
      exact this.1
    refine ⟨hu, fun u hu' => ?_⟩
    obtain ⟨i, hi, rfl⟩ := List.getElem_of_mem hu'
    unfold freeB
    have hst : ∀ j, (hj : j < l.length) → ¬ l[j].2.2.1 < 0 → cnt (l.take (j + 1)) l[j].2.2.1 (1 - l[j].1) = 0 ∧ (cnt (l.take (j + 1)) l[j].2.2.1 l[j].1 : Int) ≤ b.1.2.2.1 := by
      intro j hj hn
      have := h j hj
      unfold stepB at this
      rw [getD_lt hj] at this
      simp only [Bool.and_eq_true, Bool.or_eq_true, decide_eq_true_eq] at this
      rcases this.2 with h1 | h1
      · exact absurd h1 hn
      · exact h1
    by_cases h0 : l[i].2.2.1 < 0
    · rw [decide_eq_true h0]; rfl
    · rw [decide_eq_false h0, Bool.false_or, Bool.and_eq_true, decide_eq_true_eq, decide_eq_true_eq]
      have hpos : ∀ j, (hj : j < l.length) → 0 < cnt (l.take (j + 1)) l[j].2.2.1 l[j].1 := by
        intro j hj
        rw [cnt_succ l _ _ j hj, if_pos (by unfold onB; simp)]; omega
      constructor
      · rcases Nat.eq_zero_or_pos (cnt l l[i].2.2.1 (1 - l[i].1)) with h1 | h1
        · exact h1
        · obtain ⟨j, hj, ho⟩ := cnt_pos h1
          unfold onB at ho
          simp only [Bool.and_eq_true, decide_eq_true_eq] at ho
          have hmono : ∀ (p q : Nat) a s, p ≤ q → cnt (l.take p) a s ≤ cnt (l.take q) a s := by
            intro p q a s hpq
            have := cnt_take_le (l.take q) a s p
            rw [List.take_take, Nat.min_eq_left hpq] at this
            exact this
          rcases Nat.le_total i j with hij | hij
          · have g1 := (hst j hj (by rw [ho.1]; exact h0)).1
            rw [ho.1, ho.2] at g1
            have g2 := hpos i hi
            have g3 := hmono (i + 1) (j + 1) l[i].2.2.1 l[i].1 (by omega)
            rw [show (1 : Int) - (1 - l[i].1) = l[i].1 by omega] at g1
            omega
          · have g1 := (hst i hi h0).1
            have g2 := hpos j hj
            rw [ho.1, ho.2] at g2
            have g3 := hmono (j + 1) (i + 1) l[i].2.2.1 (1 - l[i].1) (by omega)
            omega
      · have hp : 0 < cnt (l.take l.length) l[i].2.2.1 l[i].1 := by
          have g2 := hpos i hi
          have := cnt_take_le l l[i].2.2.1 l[i].1 (i + 1)
          rw [List.take_length]; omega
        obtain ⟨j, _, hj, ho, e⟩ := cnt_last l.length (Nat.le_refl _) hp
        rw [List.take_length] at e
        unfold onB at ho
        simp only [Bool.and_eq_true, decide_eq_true_eq] at ho
        have g1 := (hst j hj (by rw [ho.1]; exact h0)).2
        rw [ho.1, ho.2, e] at g1
        exact g1
  · rintro ⟨hu, hf⟩ i hi
    unfold stepB
    rw [getD_lt hi, hu _ (List.getElem_mem hi), Bool.true_and]
    have := hf _ (List.getElem_mem hi)
    unfold freeB at this
    simp only [Bool.and_eq_true, Bool.or_eq_true, decide_eq_true_eq] at this ⊢
    rcases this with h1 | ⟨h1, h2⟩
    · exact .inl h1
    · have g1 := cnt_take_le l l[i].2.2.1 (1 - l[i].1) (i + 1)
      have g2 := cnt_take_le l l[i].2.2.1 l[i].1 (i + 1)
      exact .inr ⟨by omega, by omega⟩
theorem goodState_eq {b : BrdT} {s : StaT} (hg : goodB b = true) (hs : smallS s) (K : Bool → Option R) : impl_goodState 4194304 b s K = K (goodS b s) := by
  unfold smallS at hs
  obtain ⟨a1, a2, a3⟩ := area_ok hg
  unfold impl_goodState goodS headB
  rw [inRange_eq, inRange_eq, sizeOf_eq, a1]
  cases inB s.1 0 b.1.2.2.2.2.2.2
  · rfl
  cases inB s.2.1 0 2
  · rfl
  cases decide ((12 : Int) < (s.2.2.length : Int))
  · simp only [Bool.not_true, cond_false, Bool.not_false, Bool.true_and, Bool.and_true]
    rw [decide_eq_true (by omega : 0 ≤ area b), decide_eq_true (by omega : area b ≤ 137438953472)]
    simp only [Bool.and_self, cond_true, decide_true]
    rw [goodState_l0_eq hg (by omega) (by omega) _ ?_, step_all]
    · cases (s.2.2.all (unitB b) && s.2.2.all (freeB b s.2.2)) <;> rfl
    · refine ⟨by simp; omega, fun a ha => ?_⟩
      have : List.getD (List.replicate (Int.toNat (area b)) zRow) a zRow = zRow := by
        rw [getD_lt ha, List.getElem_replicate]
      show (List.getD (List.replicate (Int.toNat (area b)) zRow) a zRow).length = 2 ∧ _
      rw [this]
      exact ⟨rfl, rfl, rfl⟩
  · rfl
/-! ### the laws -/
theorem IsState_same {b : BrdT} {s : StaT} (hb : smallB b) (hs : smallS s) : ∃ v c, (∀ {R : Type} (K : Bool → Bool → Option R), spec_IsState 4194304 b s K = K v c) ∧ ∀ {R : Type} (K : Bool → Bool → Option R), impl_IsState 4194304 b s K = K v c := by
  cases hg : goodB b
  · exact ⟨false, false, fun K => by unfold spec_IsState; rw [bGood_eq hb, hg]; rfl, fun K => by unfold impl_IsState; rw [IsBoard_eq hb, hg]; rfl⟩
  · exact ⟨goodS b s, true, fun K => by unfold spec_IsState; rw [bGood_eq hb, hg, Bool.not_true, cond_false, sGood_eq hb hs, hg]; rfl, fun K => by unfold impl_IsState; rw [IsBoard_eq hb, hg, Bool.not_true, cond_false, goodState_eq hg hs]⟩
theorem law_FnExactIsState (b : BrdT) (w : Wf BrdTy b) (s : StaT) (w2 : Wf StaTy s) (K : Bool → Option R) : laws_FnExactIsState 4194304 b s K = K true := by
  obtain ⟨r, h1, h2⟩ := szBoard_ret w
  unfold laws_FnExactIsState
  rw [h1]
  rcases h2 with rfl | ⟨hl, hb⟩
  · rfl
  · obtain ⟨r2, h3, h4⟩ := szState_ret w2 r hl
    rw [decide_eq_false (by have := hl.1; omega), cond_false, h3]
    rcases h4 with rfl | ⟨hl2, hs⟩
    · rfl
    · obtain ⟨v, c, e1, e2⟩ := IsState_same hb hs
      rw [decide_eq_false (by have := hl2.1; omega), cond_false, toBrd_eq hb, toSta_eq hs, e1, toBrd_eq hb, toSta_eq hs, e2, toBrd_eq hb, eqBrd_self hb, toSta_eq hs, eqSta_self hs]
      simp
def hexS (b : BrdT) (s : StaT) (i : Int) : Bool := goodB b && goodS b s && inB i 0 (area b - 1)
theorem sHex_eq {b : BrdT} {s : StaT} (hb : smallB b) (hs : smallS s) (i : Int) (K : Bool → Option R) : spec_sHex 4194304 b s i K = K (hexS b s i) := by
  unfold spec_sHex hexS
  rw [sGood_eq hb hs]
  cases hg : goodB b
  · rfl
  cases goodS b s
  · rfl
  obtain ⟨_, hm, _⟩ := good_brd hg
  obtain ⟨a1, a2, a3⟩ := area_ok hg
  simp only [Bool.and_self, cond_true]
  rw [mSize_eq (good_dim hm)]
  show spec_l1In i 0 (IntKind.wrap .i64 (area b - 1)) _ = _
  rw [w64 (by omega), l1In_eq]; rfl
theorem fits_eq {b : BrdT} {s : StaT} (hb : smallB b) (hs : smallS s) (K : Bool → Option R) : impl_fits 4194304 b s K = K (goodB b && goodS b s) := by
  unfold impl_fits
  rw [IsBoard_eq hb]
  cases hg : goodB b
  · rfl
  · rw [cond_true, goodState_eq hg hs]; rfl
theorem hasHex_eq {b : BrdT} {s : StaT} (hb : smallB b) (hs : smallS s) (i : Int) (K : Bool → Option R) : impl_hasHex 4194304 b s i K = K (hexS b s i) := by
  unfold impl_hasHex hexS
  rw [fits_eq hb hs]
  cases hg : goodB b
  · rfl
  cases goodS b s
  · rfl
  obtain ⟨a1, a2, a3⟩ := area_ok hg
  simp only [Bool.and_self, cond_true]
  rw [sizeOf_eq, a1, isIndex_eq _ _ (by omega)]; rfl
def ownerF (i : Int) : List UntT → Int
  | [] => -1
  | u :: us => if u.2.2.1 = i then u.1 else ownerF i us
theorem owner_loop (L : Nat → Nat → Option R) (x : List UntT) (i : Int) (K : Int → Option R) (hs : ∀ m j (h : j < x.length), L (m + 1) j = bif decide (x[j].2.2.1 = i) then K x[j].1 else L m (j + 1)) (he : ∀ m, L (m + 1) x.length = K (-1)) : ∀ m j, j ≤ x.length → x.length - j < m → L m j = K (ownerF i (x.drop j)) := by
  intro m
  induction m with
  | zero => intro j h1 h2; omega
  | succ m ih =>
    intro j h1 h2
    rcases Nat.lt_or_ge j x.length with h | h
    · rw [hs m j h, ih (j + 1) (by omega) (by omega), List.drop_eq_getElem_cons h]
      show _ = K (if x[j].2.2.1 = i then x[j].1 else ownerF i (x.drop (j + 1)))
      by_cases hx : x[j].2.2.1 = i
      · rw [decide_eq_true hx, if_pos hx]; rfl
      · rw [decide_eq_false hx, if_neg hx]; rfl
    · have : j = x.length := by omega
      subst this
      rw [he, List.drop_length]; rfl
theorem sOwner_eq {k : Nat} {s : StaT} (h : s.2.2.length < k) (hb : s.2.2.length ≤ 137438953472) (i : Int) (K : Int → Option R) : spec_sOwner k s i K = K (ownerF i s.2.2) := by
  unfold spec_sOwner
  have := owner_loop (fun m j => spec_sOwner_l0 k (K (-1)) (fun x => K x) m i s.2.2 (s.2.2.length : Int) (j : Int)) s.2.2 i K ?_ ?_ k 0 (Nat.zero_le _) (by omega)
  · rwa [List.drop_zero] at this
  · intro m j hj
    show spec_sOwner_l0 k _ _ (m + 1) i s.2.2 (s.2.2.length : Int) (j : Int) = bif _ then _ else spec_sOwner_l0 k _ _ m i s.2.2 (s.2.2.length : Int) ((j + 1 : Nat) : Int)
    rw [spec_sOwner_l0, dlt, d0, decide_eq_true hj, toNatC, getD_lt hj, wsucc (by omega)]; rfl
  · intro m
    show spec_sOwner_l0 k _ _ (m + 1) i s.2.2 (s.2.2.length : Int) (s.2.2.length : Int) = _
    rw [spec_sOwner_l0, dlt, decide_eq_false (by omega)]; rfl
theorem ownerOf_eq {k : Nat} {s : StaT} (h : s.2.2.length < k) (hb : s.2.2.length ≤ 137438953472) (i : Int) (K : Int → Option R) : impl_ownerOf k s i K = K (ownerF i s.2.2) := by
  unfold impl_ownerOf
  have := owner_loop (fun m j => impl_ownerOf_l0 k (K (-1)) (fun x => K x) m i s.2.2 (s.2.2.length : Int) (j : Int)) s.2.2 i K ?_ ?_ k 0 (Nat.zero_le _) (by omega)
  · rwa [List.drop_zero] at this
  · intro m j hj
    show impl_ownerOf_l0 k _ _ (m + 1) i s.2.2 (s.2.2.length : Int) (j : Int) = bif _ then _ else impl_ownerOf_l0 k _ _ m i s.2.2 (s.2.2.length : Int) ((j + 1 : Nat) : Int)
    rw [impl_ownerOf_l0, dlt, d0, decide_eq_true hj, toNatC, getD_lt hj, wsucc (by omega)]; rfl
  · intro m
    show impl_ownerOf_l0 k _ _ (m + 1) i s.2.2 (s.2.2.length : Int) (s.2.2.length : Int) = _
    rw [impl_ownerOf_l0, dlt, decide_eq_false (by omega)]; rfl
theorem OwnerOf_same {b : BrdT} {s : StaT} (hb : smallB b) (hs : smallS s) (i : Int) : ∃ v c, (∀ {R : Type} (K : Int → Bool → Option R), spec_OwnerOf 4194304 b s i K = K v c) ∧ ∀ {R : Type} (K : Int → Bool → Option R), impl_OwnerOf 4194304 b s i K = K v c := by
  have hs' := hs
  unfold smallS at hs'
  cases hh : hexS b s i
  · exact ⟨0, false, fun K => by unfold spec_OwnerOf; rw [sHex_eq hb hs, hh]; rfl, fun K => by unfold impl_OwnerOf; rw [hasHex_eq hb hs, hh]; rfl⟩
  · exact ⟨ownerF i s.2.2, true, fun K => by unfold spec_OwnerOf; rw [sHex_eq hb hs, hh, Bool.not_true, cond_false, sOwner_eq (by omega) (by omega)], fun K => by unfold impl_OwnerOf; rw [hasHex_eq hb hs, hh, Bool.not_true, cond_false, ownerOf_eq (by omega) (by omega)]⟩
theorem law_FnExactOwnerOf (b : BrdT) (w : Wf BrdTy b) (s : StaT) (w2 : Wf StaTy s) (i : Int) (w3 : Wf (.int .i64) i) (K : Bool → Option R) : laws_FnExactOwnerOf 4194304 b s i K = K true := by
  obtain ⟨r, h1, h2⟩ := szBoard_ret w
  unfold laws_FnExactOwnerOf
  rw [h1]
  rcases h2 with rfl | ⟨hl, hb⟩
  · rfl
  · obtain ⟨r2, h3, h4⟩ := szState_ret w2 r hl
    rw [decide_eq_false (by have := hl.1; omega), cond_false, h3]
    rcases h4 with rfl | ⟨hl2, hs⟩
    · rfl
    · obtain ⟨v, c, e1, e2⟩ := OwnerOf_same hb hs i
      rw [decide_eq_false (by have := hl2.1; omega), cond_false, toBrd_eq hb, toSta_eq hs, e1, toBrd_eq hb, toSta_eq hs, e2, toBrd_eq hb, eqBrd_self hb, toSta_eq hs, eqSta_self hs]
      simp
end
end Go.Lg
