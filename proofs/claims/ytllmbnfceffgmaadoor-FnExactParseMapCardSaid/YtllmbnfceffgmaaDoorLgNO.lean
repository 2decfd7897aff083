/- Reading a map: what was written is read back. -/
import Derived.Test.YtllmbnfceffgmaaDoorLg1
set_option linter.unusedVariables false
set_option linter.unusedSimpArgs false
set_option linter.unusedSectionVars false
set_option linter.unusedSimpArgs false
set_option linter.unusedVariables false
namespace Go.Lg
open Go Go.Ev
section
variable {R α σ ι : Type}
theorem toList_mk (l : List UInt8) : (mkB l).toList = l := by
  unfold mkB
  simp
theorem toList_toL (a : ByteArray) : a.toList = toL a := by
  have := toList_mk (toL a)
  rwa [mkB_toL] at this
theorem toList_inj {a b : ByteArray} (h : (a.toList == b.toList) = true) : a = b := by
  rw [beq_iff_eq, toList_toL, toList_toL] at h
  exact toL_inj h
theorem dig_ok : ∀ n < 6, (Lib.itoa ((n : Nat) : Int)).map datW = [((n : Nat) : Int)] ∧ 10 ∉ Lib.itoa ((n : Nat) : Int) ∧ 32 ∉ Lib.itoa ((n : Nat) : Int) ∧ 114 ∉ Lib.itoa ((n : Nat) : Int) ∧ (Lib.itoa ((n : Nat) : Int)).length = 1 := by decide +kernel
theorem num_ok : ∀ n < 301, 10 ∉ Lib.itoa ((n : Nat) : Int) ∧ 32 ∉ Lib.itoa ((n : Nat) : Int) := by decide +kernel
/-- Numbers of a valid map's lists. -/
def okE (l : List Int) : Prop := ∀ e ∈ l, 0 ≤ e ∧ e < 301
theorem num_of {e : Int} (h : 0 ≤ e ∧ e < 301) : 10 ∉ Lib.itoa e ∧ 32 ∉ Lib.itoa e ∧ rdV (Lib.itoa e) = e ∧ readIV (mkB (Lib.itoa e)) = (e, true) := by
  obtain ⟨n, rfl⟩ : ∃ n : Nat, e = (n : Int) := ⟨e.toNat, by omega⟩
  have hn : n < 301 := by omega
  exact ⟨(num_ok n hn).1, (num_ok n hn).2, rdV_back n hn, readIV_back n hn⟩
/-! ### lines of numbers -/
def wordsL (w : List UInt8) (l : List Int) : List UInt8 := w ++ l.flatMap fun e => 32 :: Lib.itoa e
theorem toL_wordB : ∀ (l : List Int) (w : ByteArray), toL (wordB w l) = wordsL (toL w) l
  | [], w => by simp [wordB, wordsL]
  | e :: l, w => by
    have ih := toL_wordB l (w ++ (sp ++ itoaB e))
    have h1 : wordB w (e :: l) = wordB (w ++ (sp ++ itoaB e)) l := rfl
    rw [h1, ih]
    unfold wordsL
    rw [toL_app, toL_app, List.flatMap_cons, List.append_assoc]
    rfl
theorem wordsL_split : ∀ (l : List Int) {w : List UInt8}, okE l → 32 ∉ w → splL 32 (wordsL w l) = w :: l.map Lib.itoa
  | [], w, _, hw => by simp only [wordsL, List.flatMap_nil, List.append_nil, List.map_nil]; exact splL_none hw
  | e :: l, w, h, hw => by
    have he := num_of (h e List.mem_cons_self)
    have h1 : wordsL w (e :: l) = w ++ 32 :: wordsL (Lib.itoa e) l := by unfold wordsL; simp
    rw [h1, splL_app hw, wordsL_split l (fun x hx => h x (List.mem_cons_of_mem _ hx)) he.2.1, List.map_cons]
theorem wordsL_no10 : ∀ (l : List Int) {w : List UInt8}, okE l → 10 ∉ w → 10 ∉ wordsL w l
  | [], w, _, hw => by simpa [wordsL] using hw
  | e :: l, w, h, hw => by
    have he := num_of (h e List.mem_cons_self)
    have h1 : wordsL w (e :: l) = w ++ 32 :: wordsL (Lib.itoa e) l := by unfold wordsL; simp
    have ih := wordsL_no10 l (fun x hx => h x (List.mem_cons_of_mem _ hx)) he.1
    rw [h1, List.mem_append, List.mem_cons]
    rintro (h2 | h2 | h2)
    · exact hw h2
    · cases h2
    · exact ih h2
theorem words_of {w : List UInt8} {l : List Int} (h : okE l) (hw : 32 ∉ w) : spV (mkB (wordsL w l)) 32 = mkB w :: l.map fun e => mkB (Lib.itoa e) := by
  unfold spV
  rw [toL_mkB, wordsL_split l h hw, List.map_cons, List.map_map]; rfl
theorem nums_of {w : List UInt8} {l : List Int} (h : okE l) (hw : 32 ∉ w) : numsV (mkB (wordsL w l)) = l ∧ w0 (mkB (wordsL w l)) = mkB w := by
  unfold numsV w0 wordsV
  rw [words_of h hw]
  refine ⟨?_, rfl⟩
  rw [List.tail_cons, List.map_map]
  conv => rhs; rw [← List.map_id l]
  exact List.map_congr_left fun e he => (num_of (h e he)).2.2.1
theorem rwL_of : ∀ {l : List Int}, okE l → rwL (l.map fun e => mkB (Lib.itoa e)) = some l
  | [], _ => rfl
  | e :: l, h => by
    have he := num_of (h e List.mem_cons_self)
    rw [List.map_cons, rwL, he.2.2.2, if_pos rfl, rwL_of (fun x hx => h x (List.mem_cons_of_mem _ hx))]
    rfl
theorem rwV_of {w : List UInt8} {l : List Int} (h : okE l) (hw : 32 ∉ w) : rwV (mkB (wordsL w l)) (mkB w) = some l := by
  unfold rwV
  rw [words_of h hw]
  show (if ((mkB w).toList == (mkB w).toList) = true then rwL (l.map fun e => mkB (Lib.itoa e)) else none) = _
  rw [beq_self_eq_true, if_pos rfl, rwL_of h]
/-! ### the terrain's letters -/
section
variable (m : MapT)
def endB (i : Nat) : Bool := decide (Int.tmod (i : Int) m.1 = m.1 - 1)
def digL (i : Nat) : List UInt8 := Lib.itoa (List.getD m.2.2.1 i 0)
def tokL : Nat → Nat → List UInt8
  | 0, _ => []
  | c + 1, i => (digL m i ++ bif endB m i then [10] else []) ++ tokL c (i + 1)
theorem toL_terF : ∀ (c i : Nat) (s : ByteArray), toL (iterN (terF m) c i s) = toL s ++ tokL m c i
  | 0, i, s => by simp [iterN, tokL]
  | c + 1, i, s => by
    rw [iterN, toL_terF c (i + 1), tokL]
    unfold terF endB digL
    cases decide (Int.tmod (i : Int) m.1 = m.1 - 1)
    · rw [cond_false, toL_app, cond_false, List.append_nil, List.append_assoc]; rfl
    · rw [cond_true, toL_app, toL_app, cond_true, List.append_assoc, List.append_assoc, List.append_assoc]; rfl
def rowsGo : List UInt8 → Nat → Nat → List (List UInt8) × List UInt8
  | cur, 0, _ => ([], cur)
  | cur, c + 1, i => bif endB m i then ((cur ++ digL m i) :: (rowsGo [] c (i + 1)).1, (rowsGo [] c (i + 1)).2) else rowsGo (cur ++ digL m i) c (i + 1)
def digsL : Nat → Nat → List UInt8
  | 0, _ => []
  | c + 1, i => digL m i ++ digsL c (i + 1)
def endsN : Nat → Nat → Nat
  | 0, _ => 0
  | c + 1, i => (bif endB m i then 1 else 0) + endsN c (i + 1)
variable {m}
theorem rows_split : ∀ (c i : Nat) (cur rest : List UInt8), (∀ j, i ≤ j → j < i + c → 10 ∉ digL m j) → 10 ∉ cur → splL 10 (cur ++ (tokL m c i ++ rest)) = (rowsGo m cur c i).1 ++ splL 10 ((rowsGo m cur c i).2 ++ rest)
  | 0, i, cur, rest, _, _ => by simp [tokL, rowsGo]
  | c + 1, i, cur, rest, hd, hc => by
    have h10 : 10 ∉ cur ++ digL m i := by
      rw [List.mem_append]
      rintro (h | h)
      · exact hc h
      · exact hd i (Nat.le_refl _) (by omega) h
    rw [tokL, rowsGo]
    cases endB m i
    · rw [cond_false, cond_false, List.append_nil, List.append_assoc, ← List.append_assoc]
      exact rows_split c (i + 1) _ rest (fun j h1 h2 => hd j (by omega) (by omega)) h10
    · rw [cond_true, cond_true]
      have e : cur ++ ((digL m i ++ [10]) ++ tokL m c (i + 1) ++ rest) = (cur ++ digL m i) ++ 10 :: ([] ++ (tokL m c (i + 1) ++ rest)) := by simp
      rw [e, splL_app h10, rows_split c (i + 1) [] rest (fun j h1 h2 => hd j (by omega) (by omega)) (by simp)]
      rfl
theorem rows_flat : ∀ (c i : Nat) (cur : List UInt8), (rowsGo m cur c i).1.flatten ++ (rowsGo m cur c i).2 = cur ++ digsL m c i
  | 0, i, cur => by simp [rowsGo, digsL]
  | c + 1, i, cur => by
    rw [rowsGo, digsL]
    cases endB m i
    · rw [cond_false, rows_flat c (i + 1), List.append_assoc]
    · rw [cond_true, List.flatten_cons, List.append_assoc, rows_flat c (i + 1) [], List.nil_append, List.append_assoc]
theorem rowsG_len : ∀ (c i : Nat) (cur : List UInt8), (rowsGo m cur c i).1.length = endsN m c i
  | 0, i, cur => rfl
  | c + 1, i, cur => by
    rw [rowsGo, endsN]
    cases endB m i
    · rw [cond_false, cond_false, rowsG_len c (i + 1), Nat.zero_add]
    · rw [cond_true, cond_true, List.length_cons, rowsG_len c (i + 1), Nat.add_comm]
theorem rows_last : ∀ (c i : Nat) (cur : List UInt8), endB m (i + c) = true → (rowsGo m cur (c + 1) i).2 = []
  | 0, i, cur, h => by rw [rowsGo, show endB m i = true from h]; rfl
  | c + 1, i, cur, h => by
    have h' : endB m (i + 1 + c) = true := by rw [show i + 1 + c = i + (c + 1) by omega]; exact h
    rw [rowsGo]
    cases endB m i
    · exact rows_last c (i + 1) _ h'
    · exact rows_last c (i + 1) [] h'
theorem rows_mem : ∀ (c i : Nat) (cur : List UInt8) (p : UInt8), p ∉ cur → (∀ j, i ≤ j → j < i + c → p ∉ digL m j) → ∀ r ∈ (rowsGo m cur c i).1, p ∉ r
  | 0, i, cur, p, _, _, r, hr => by cases hr
  | c + 1, i, cur, p, hc, hd, r, hr => by
    have hp : p ∉ cur ++ digL m i := by
      rw [List.mem_append]
      rintro (h | h)
      · exact hc h
      · exact hd i (Nat.le_refl _) (by omega) h
    rw [rowsGo] at hr
    cases he : endB m i
    · rw [he] at hr
      exact rows_mem c (i + 1) _ p hp (fun j h1 h2 => hd j (by omega) (by omega)) r hr
    · rw [he] at hr
      rcases List.mem_cons.1 hr with rfl | hr
      · exact hp
      · exact rows_mem c (i + 1) [] p (by simp) (fun j h1 h2 => hd j (by omega) (by omega)) r hr
end
/-! ### a valid map's text, line by line -/
theorem endB_nat {m : MapT} {w : Nat} (hw : m.1 = (w : Int)) (h1 : 1 ≤ w) (i : Nat) : endB m i = decide (i % w = w - 1) := by
  unfold endB
  rw [hw, Int.tmod_eq_emod_of_nonneg (by omega), decide_eq_decide]
  have : (i : Int) % (w : Int) = ((i % w : Nat) : Int) := by simp
  rw [this]; omega
theorem div_next (i : Nat) {w : Nat} (h1 : 1 ≤ w) : (i + 1) / w = i / w + if i % w = w - 1 then 1 else 0 := by
  have hd := Nat.div_add_mod i w
  have hm := Nat.mod_lt i (show 0 < w by omega)
  split
  · rename_i h
    have e : i + 1 = w * (i / w + 1) := by rw [Nat.mul_add, Nat.mul_one]; omega
    rw [e, Nat.mul_div_cancel_left _ (by omega)]
  · rename_i h
    have e : i + 1 = w * (i / w) + (i % w + 1) := by omega
    conv => lhs; rw [e]
    rw [Nat.mul_add_div (by omega), Nat.div_eq_of_lt (a := i % w + 1) (by omega)]
theorem ends_div {m : MapT} {w : Nat} (hw : m.1 = (w : Int)) (h1 : 1 ≤ w) : ∀ (c i : Nat), endsN m c i + i / w = (i + c) / w
  | 0, i => by simp [endsN]
  | c + 1, i => by
    have ih := ends_div hw h1 c (i + 1)
    have hn := div_next i h1
    rw [endsN, endB_nat hw h1]
    rw [show i + (c + 1) = i + 1 + c by omega, ← ih, hn]
    by_cases h : i % w = w - 1
    · rw [decide_eq_true h, if_pos h, cond_true]; omega
    · rw [decide_eq_false h, if_neg h, cond_false]; omega
theorem addT_all : ∀ (l : List UInt8) (t : List Int), t.length + l.length ≤ 101 → addT l t = t ++ l.map datW
  | [], t, _ => by simp [addT]
  | c :: l, t, h => by
    rw [List.length_cons] at h
    rw [addT, if_pos (by omega), addT_all l _ (by rw [List.length_append, List.length_singleton]; omega), List.map_cons, List.append_assoc]; rfl
def mapC : List UInt8 := [109, 97, 112]
def rivC : List UInt8 := [114, 105, 118, 101, 114, 115]
def roadC : List UInt8 := [114, 111, 97, 100, 115]
theorem single_line {r : List UInt8} (h : 32 ∉ r) : w0 (mkB r) = mkB r := by
  unfold w0 wordsV spV
  rw [toL_mkB, splL_none h]; rfl
theorem stepD_plain {r : List UInt8} (h : 32 ∉ r) (h2 : 114 ∉ r) (s : PS) : stepD (mkB r) s = (s.1, s.2.1, s.2.2.1, s.2.2.2.1, addT r s.2.2.2.2) := by
  have n1 : ¬ ((w0 (mkB r)).toList == rivW.toList) = true := by
    rw [single_line h, beq_iff_eq, toList_mk]
    intro e
    have : rivW.toList = rivC := toList_mk rivC
    rw [this] at e
    exact h2 (e ▸ (by decide : (114 : UInt8) ∈ rivC))
  have n2 : ¬ ((w0 (mkB r)).toList == roadW.toList) = true := by
    rw [single_line h, beq_iff_eq, toList_mk]
    intro e
    have : roadW.toList = roadC := toList_mk roadC
    rw [this] at e
    exact h2 (e ▸ (by decide : (114 : UInt8) ∈ roadC))
  unfold stepD
  rw [if_neg n1, if_neg n2, toL_mkB]
theorem rows_fold : ∀ (rows : List (List UInt8)) (s : PS), (∀ r ∈ rows, 32 ∉ r ∧ 114 ∉ r) → s.2.2.2.2.length + rows.flatten.length ≤ 101 → (rows.map mkB).foldl (fun s l => stepD l s) s = (s.1, s.2.1, s.2.2.1, s.2.2.2.1, s.2.2.2.2 ++ rows.flatten.map datW)
  | [], s, _, _ => by simp
  | r :: rows, s, h, hl => by
    have hr := h r List.mem_cons_self
    rw [List.flatten_cons, List.length_append] at hl
    rw [List.map_cons, List.foldl_cons, stepD_plain hr.1 hr.2, addT_all r _ (by omega), rows_fold rows _ (fun q hq => h q (List.mem_cons_of_mem _ hq)) (by simp only [List.length_append, List.length_map]; omega), List.flatten_cons, List.map_append, List.append_assoc]
theorem parsP_cons (a : ByteArray) (ls : List ByteArray) : parsP (a :: ls) = ls.foldl (fun s l => stepD l s) (stepP (a :: ls) 0 (0, 0, [], [], [])) := by
  have key : ∀ (c i : Nat) (s : PS), 1 ≤ i → i + c = (a :: ls).length → iterN (stepP (a :: ls)) c i s = ((a :: ls).drop i).foldl (fun s l => stepD l s) s := by
    intro c
    induction c with
    | zero => intro i s h1 h2; rw [List.drop_of_length_le (by omega)]; rfl
    | succ c ih =>
      intro i s h1 h2
      have hi : i < (a :: ls).length := by omega
      rw [iterN, ih (i + 1) _ (by omega) (by omega), List.drop_eq_getElem_cons hi, List.foldl_cons]
      congr 1
      unfold stepP
      rw [if_neg (fun h => by omega), getD_lt hi]
  unfold parsP
  show iterN (stepP (a :: ls)) ls.length 1 (stepP (a :: ls) 0 (0, 0, [], [], [])) = _
  rw [key ls.length 1 _ (Nat.le_refl _) (by rw [List.length_cons]; omega)]; rfl
section
variable {m : MapT} (hg : good m = true)
include hg
theorem good_parts : mapDim m ∧ (m.2.2.1.length : Int) = m.1 * m.2.1 ∧ (∀ t ∈ m.2.2.1, 0 ≤ t ∧ t ≤ 5) ∧ okE m.2.2.2.1 ∧ okE m.2.2.2.2 := by
  have hm := good_dim hg
  have he : edgesB m m.2.2.2.1 = true ∧ edgesB m m.2.2.2.2 = true := by
    have h := hg
    unfold good at h
    simp only [Bool.and_eq_true] at h
    exact h.2.2.2.2
  refine ⟨hm, ter_len hg, ter_ge hg, fun e h => ?_, fun e h => ?_⟩
  · have := (mirEdges_ok hm he.1).2.2.2 e h; omega
  · have := (mirEdges_ok hm he.2).2.2.2 e h; omega
theorem dig_at {i : Nat} (hi : i < m.2.2.1.length) : (digL m i).map datW = [m.2.2.1[i]] ∧ 10 ∉ digL m i ∧ 32 ∉ digL m i ∧ 114 ∉ digL m i ∧ (digL m i).length = 1 := by
  obtain ⟨_, _, ht, _⟩ := good_parts hg
  have h := ht _ (List.getElem_mem hi)
  unfold digL
  rw [getD_lt hi]
  obtain ⟨n, hn⟩ : ∃ n : Nat, m.2.2.1[i] = (n : Int) := ⟨(m.2.2.1[i]).toNat, by omega⟩
  rw [hn]
  exact dig_ok n (by omega)
theorem digs_val : ∀ (c i : Nat), i + c ≤ m.2.2.1.length → (digsL m c i).map datW = (m.2.2.1.drop i).take c ∧ (digsL m c i).length = c
  | 0, i, _ => by simp [digsL]
  | c + 1, i, h => by
    have hi : i < m.2.2.1.length := by omega
    have hd := dig_at hg hi
    have ih := digs_val c (i + 1) (by omega)
    rw [digsL, List.map_append, hd.1, ih.1, List.length_append, hd.2.2.2.2, ih.2, List.drop_eq_getElem_cons hi, List.take_succ_cons]
    exact ⟨rfl, by omega⟩
/-- The rows of terrain letters. -/
theorem rows_of : ∃ rows : List (List UInt8), (∀ rest, splL 10 (tokL m m.2.2.1.length 0 ++ rest) = rows ++ splL 10 rest) ∧ (rows.length : Int) = m.2.1 ∧ rows.flatten.map datW = m.2.2.1 ∧ rows.flatten.length ≤ 100 ∧ ∀ r ∈ rows, 32 ∉ r ∧ 114 ∉ r := by
  obtain ⟨hm, hlen, _⟩ := good_parts hg
  have ha := area_le hm
  obtain ⟨w, hw⟩ : ∃ w : Nat, m.1 = (w : Int) := ⟨m.1.toNat, by have := hm.1; omega⟩
  obtain ⟨h, hh⟩ : ∃ h : Nat, m.2.1 = (h : Int) := ⟨m.2.1.toNat, by have := hm.2; omega⟩
  have hw1 : 1 ≤ w := by have := hm.1; omega
  have hh1 : 1 ≤ h := by have := hm.2; omega
  have hn : m.2.2.1.length = w * h := by
    rw [hw, hh] at hlen
    exact_mod_cast hlen
  have hpos : 1 ≤ w * h := by rw [← hn]; omega
  have hlast : (rowsGo m [] m.2.2.1.length 0).2 = [] := by
    have hr := rows_last (m := m) (m.2.2.1.length - 1) 0 [] (by
      rw [endB_nat hw hw1, decide_eq_true_eq, Nat.zero_add, hn]
      have e : w * h - 1 = w * (h - 1) + (w - 1) := by
        have : w * h = w * (h - 1) + w := by
          conv => lhs; rw [show h = (h - 1) + 1 by omega]
          rw [Nat.mul_add, Nat.mul_one]
        omega
      rw [e, Nat.mul_add_mod, Nat.mod_eq_of_lt (by omega)])
    rwa [show m.2.2.1.length - 1 + 1 = m.2.2.1.length by omega] at hr
  have hd10 : ∀ j, 0 ≤ j → j < 0 + m.2.2.1.length → 10 ∉ digL m j := fun j _ hj => (dig_at hg (by omega)).2.1
  have hfl := rows_flat (m := m) m.2.2.1.length 0 []
  rw [hlast, List.append_nil, List.nil_append] at hfl
  have hv := digs_val hg m.2.2.1.length 0 (by omega)
  refine ⟨(rowsGo m [] m.2.2.1.length 0).1, fun rest => ?_, ?_, ?_, ?_, fun r hr => ⟨?_, ?_⟩⟩
  · have := rows_split (m := m) m.2.2.1.length 0 [] rest hd10 (by simp)
    rw [hlast] at this
    exact this
  · rw [rowsG_len]
    have := ends_div hw hw1 m.2.2.1.length 0
    rw [Nat.zero_div, Nat.zero_add, hn, Nat.mul_div_cancel_left _ (by omega)] at this
    rw [hn, hh]; omega
  · rw [hfl, hv.1, List.drop_zero, List.take_length]
  · rw [hfl, hv.2]; omega
  · exact rows_mem m.2.2.1.length 0 [] 32 (by simp) (fun j _ hj => (dig_at hg (by omega)).2.2.1) r hr
  · exact rows_mem m.2.2.1.length 0 [] 114 (by simp) (fun j _ hj => (dig_at hg (by omega)).2.2.2.1) r hr
theorem text_of : toL (mapZ m) = wordsL mapC [m.1, m.2.1] ++ 10 :: (tokL m m.2.2.1.length 0 ++ (wordsL rivC m.2.2.2.1 ++ 10 :: (wordsL roadC m.2.2.2.2 ++ [10]))) := by
  unfold mapZ mapS mapH
  rw [toL_app, toL_app, toL_app, toL_app, toL_terF, toL_wordB, toL_wordB, toL_app, toL_app, toL_app, toL_app, Nat.sub_zero]
  have e1 : toL (⟨#[109, 97, 112, 32]⟩ : ByteArray) = [109, 97, 112, 32] := rfl
  have e2 : toL sp = [32] := rfl
  have e3 : toL nl = [10] := rfl
  have e4 : toL (⟨#[114, 105, 118, 101, 114, 115]⟩ : ByteArray) = rivC := rfl
  have e5 : toL (⟨#[114, 111, 97, 100, 115]⟩ : ByteArray) = roadC := rfl
  rw [e1, e2, e3, e4, e5, itoaB_toL, itoaB_toL]
  unfold wordsL mapC
  simp
/-- What both sides need of a valid map's lines. -/
theorem lines_of : ∃ rows : List (List UInt8), spV (mapZ m) 10 = mkB (wordsL mapC [m.1, m.2.1]) :: (rows.map mkB ++ [mkB (wordsL rivC m.2.2.2.1), mkB (wordsL roadC m.2.2.2.2), mkB []]) ∧ (rows.length : Int) = m.2.1 ∧ rows.flatten.map datW = m.2.2.1 ∧ rows.flatten.length ≤ 100 ∧ ∀ r ∈ rows, 32 ∉ r ∧ 114 ∉ r := by
  obtain ⟨rows, h1, h2⟩ := rows_of hg
  obtain ⟨hm, _, _, e1, e2⟩ := good_parts hg
  have e0 : okE [m.1, m.2.1] := by
    have := hm.1; have := hm.2
    intro e he
    simp only [List.mem_cons, List.not_mem_nil, or_false] at he
    rcases he with rfl | rfl <;> omega
  refine ⟨rows, ?_, h2⟩
  unfold spV
  rw [text_of hg, splL_app (wordsL_no10 _ e0 (by decide)), h1, splL_app (wordsL_no10 _ e1 (by decide)), splL_app (wordsL_no10 _ e2 (by decide))]
  simp [splL]
theorem spec_back : mapP (parsP (spV (mapZ m) 10)) = m := by
  obtain ⟨rows, h1, h2, h3, h4, h5⟩ := lines_of hg
  obtain ⟨hm, _, _, e1, e2⟩ := good_parts hg
  have e0 : okE [m.1, m.2.1] := by
    have := hm.1; have := hm.2
    intro e he
    simp only [List.mem_cons, List.not_mem_nil, or_false] at he
    rcases he with rfl | rfl <;> omega
  have hw : wordsV (mkB (wordsL mapC [m.1, m.2.1])) = [mkB mapC, mkB (Lib.itoa m.1), mkB (Lib.itoa m.2.1)] := words_of e0 (by decide)
  have hn1 := num_of (e0 m.1 (by simp))
  have hn2 := num_of (e0 m.2.1 (by simp))
  rw [h1, parsP_cons]
  have hst : ∀ L, stepP (mkB (wordsL mapC [m.1, m.2.1]) :: L) 0 (0, 0, [], [], []) = (m.1, m.2.1, [], [], []) := by
    intro L
    unfold stepP
    rw [List.getD_cons_zero, hw, if_pos ⟨rfl, rfl⟩]
    show (rdV (toL (mkB (Lib.itoa m.1))), rdV (toL (mkB (Lib.itoa m.2.1))), _) = _
    rw [toL_mkB, toL_mkB, hn1.2.2.1, hn2.2.2.1]
  rw [hst, List.foldl_append, rows_fold rows _ h5 (by show (0 : Nat) + _ ≤ _; omega)]
  have hr := nums_of e1 (w := rivC) (by decide)
  have ho := nums_of e2 (w := roadC) (by decide)
  have hrr : rivW.toList = rivC := toList_mk rivC
  have hoo : roadW.toList = roadC := toList_mk roadC
  have s1 : ∀ s : PS, stepD (mkB (wordsL rivC m.2.2.2.1)) s = (s.1, s.2.1, m.2.2.2.1, s.2.2.2.1, s.2.2.2.2) := by
    intro s
    unfold stepD
    rw [hr.2, hr.1, toList_mk, hrr, beq_self_eq_true, if_pos rfl]
  have s2 : ∀ s : PS, stepD (mkB (wordsL roadC m.2.2.2.2)) s = (s.1, s.2.1, s.2.2.1, m.2.2.2.2, s.2.2.2.2) := by
    intro s
    unfold stepD
    rw [ho.2, ho.1, toList_mk, hrr, hoo, if_neg (by decide), beq_self_eq_true, if_pos rfl]
  show mapP (stepD (mkB []) (stepD (mkB (wordsL roadC m.2.2.2.2)) (stepD (mkB (wordsL rivC m.2.2.2.1)) _))) = m
  rw [s1, s2, stepD_plain (by simp) (by simp)]
  show (m.1, (m.2.1, (addT [] ([] ++ rows.flatten.map datW), (m.2.2.2.1, m.2.2.2.2)))) = m
  rw [h3, List.nil_append]
  rfl
theorem impl_back : implP (spV (mapZ m) 10) = some m := by
  obtain ⟨rows, h1, h2, h3, h4, h5⟩ := lines_of hg
  obtain ⟨hm, _, _, e1, e2⟩ := good_parts hg
  have e0 : okE [m.1, m.2.1] := by
    have := hm.1; have := hm.2
    intro e he
    simp only [List.mem_cons, List.not_mem_nil, or_false] at he
    rcases he with rfl | rfl <;> omega
  have hw1 := hm.1
  have hw2 := hm.2
  rw [h1]
  have hr0 : rwV (mkB (wordsL mapC [m.1, m.2.1])) mapW = some [m.1, m.2.1] := rwV_of e0 (by decide)
  have hr1 : rwV (mkB (wordsL rivC m.2.2.2.1)) rivW = some m.2.2.2.1 := rwV_of e1 (by decide)
  have hr2 : rwV (mkB (wordsL roadC m.2.2.2.2)) roadW = some m.2.2.2.2 := rwV_of e2 (by decide)
  have hside : sideP (mkB (wordsL mapC [m.1, m.2.1]) :: (rows.map mkB ++ [mkB (wordsL rivC m.2.2.2.1), mkB (wordsL roadC m.2.2.2.2), mkB []])) = some (m.1, m.2.1) := by
    unfold sideP
    rw [List.getD_cons_zero, hr0]
    show (if _ then _ else _) = _
    rw [if_pos ⟨rfl, inB_iff.2 (by show 1 ≤ m.1 ∧ m.1 ≤ 10; omega), inB_iff.2 (by show 1 ≤ m.2.1 ∧ m.2.1 ≤ 10; omega), by simp only [List.length_cons, List.length_append, List.length_map, List.length_nil]; show _ = m.2.1 + 4; omega⟩]
    rfl
  have i1 : Int.toNat (1 + m.2.1) = rows.length + 1 := by omega
  have i2 : Int.toNat (2 + m.2.1) = rows.length + 2 := by omega
  unfold implP
  rw [hside]
  simp only [i1, i2]
  have g1 : List.getD (mkB (wordsL mapC [m.1, m.2.1]) :: (rows.map mkB ++ [mkB (wordsL rivC m.2.2.2.1), mkB (wordsL roadC m.2.2.2.2), mkB []])) (rows.length + 1) zB = mkB (wordsL rivC m.2.2.2.1) := by
    rw [List.getD_cons_succ, List.getD_eq_getElem?_getD, List.getElem?_append_right (by rw [List.length_map]; exact Nat.le_refl _), List.length_map, Nat.sub_self]; rfl
  have g2 : List.getD (mkB (wordsL mapC [m.1, m.2.1]) :: (rows.map mkB ++ [mkB (wordsL rivC m.2.2.2.1), mkB (wordsL roadC m.2.2.2.2), mkB []])) (rows.length + 2) zB = mkB (wordsL roadC m.2.2.2.2) := by
    rw [List.getD_cons_succ, List.getD_eq_getElem?_getD, List.getElem?_append_right (by rw [List.length_map]; omega), List.length_map, show rows.length + 1 - rows.length = 1 by omega]; rfl
  rw [g1, g2, hr1, hr2]
  have g3 : List.drop 1 (List.take (rows.length + 1) (mkB (wordsL mapC [m.1, m.2.1]) :: (rows.map mkB ++ [mkB (wordsL rivC m.2.2.2.1), mkB (wordsL roadC m.2.2.2.2), mkB []]))) = rows.map mkB := by
    rw [List.take_succ_cons, List.drop_succ_cons, List.drop_zero, List.take_left' (by rw [List.length_map])]
  have g4 : terI (rows.map mkB) = m.2.2.1 := by
    rw [← h3]
    unfold terI
    rw [List.map_map, List.map_flatten]
    congr 1
  rw [g3, g4]
end
theorem ParseMap_same {x : ByteArray} (hx : x.size ≤ 1048576) : ∃ (v : MapT) (c : Bool), small v ∧ (∀ {R : Type} (K : MapT → Bool → Option R), spec_ParseMap 4194304 x K = K v c) ∧ ∀ {R : Type} (K : MapT → Bool → Option R), impl_ParseMap 4194304 x K = K v c := by
  have hz : small zMap := by unfold small zMap; simp
  have hsm : ∀ m : MapT, good m = true → small m := by
    intro m hg
    have hm := good_dim hg
    have ha := area_le hm
    have hl := ter_len hg
    have he : edgesB m m.2.2.2.1 = true ∧ edgesB m m.2.2.2.2 = true := by
      have h := hg
      unfold good at h
      simp only [Bool.and_eq_true] at h
      exact h.2.2.2.2
    have h1 := okQ_len (mirEdges_ok hm he.1).2.2
    have h2 := okQ_len (mirEdges_ok hm he.2).2.2
    exact ⟨by omega, by omega, by omega⟩
  cases hs : okM (mapP (parsP (spV x 10))) x
  · refine ⟨zMap, false, hz, fun K => by rw [spec_total hx, hs]; rfl, fun K => ?_⟩
    rw [impl_total hx]
    cases hi : implP (spV x 10) with
    | none => rfl
    | some m =>
      cases ho : okM m x
      · simp only [ho]; rfl
      · exfalso
        have ho' := ho
        unfold okM at ho'
        simp only [Bool.and_eq_true] at ho'
        have e := toList_inj ho'.2
        have := spec_back ho'.1
        rw [e] at this
        rw [this, ho] at hs
        cases hs
  · have hs' := hs
    unfold okM at hs'
    simp only [Bool.and_eq_true] at hs'
    have e := toList_inj hs'.2
    have hb := impl_back hs'.1
    rw [e] at hb
    refine ⟨mapP (parsP (spV x 10)), true, hsm _ hs'.1, fun K => by rw [spec_total hx, hs]; rfl, fun K => ?_⟩
    rw [impl_total hx, hb]
    simp only [hs]
    rfl
theorem law_FnExactParseMap (s : ByteArray) (w : Wf .str s) (K : Bool → Option R) : laws_FnExactParseMap 4194304 s K = K true := by
  unfold laws_FnExactParseMap
  by_cases hL : (1048576 : Int) < ((ByteArray.size s : Nat) : Int)
  · rw [decide_eq_true hL]; rfl
  · obtain ⟨v, c, hv, e1, e2⟩ := ParseMap_same (x := s) (by omega)
    have hd := cM_le hv
    rw [decide_eq_false hL, cond_false, e1, e2, eqMap_self hv, markMap_k hv _ (by omega) (by omega), heldMap_k hv, decide_eq_false (by omega), decide_eq_true rfl, e2, eqMap_self hv, heldMap_k hv, decide_eq_false (by omega), decide_eq_true rfl]
    simp
end
end Go.Lg
