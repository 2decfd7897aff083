/- Regions: walks over a graph, in plain words. -/
import Derived.Test.YtbfbeaghmlkjkaaGreatDoorLg1
set_option linter.unusedVariables false
set_option linter.unusedSimpArgs false
set_option linter.unusedSectionVars false
set_option linter.unusedSimpArgs false
set_option linter.unusedVariables false
namespace Go.Lg
open Go Go.Ev
section
variable {R α σ ι : Type}
/-! ### sorting and putting in -/
theorem sortI_perm (l : List Int) : (sortI l).Perm l := List.mergeSort_perm l _
theorem sortI_mem {l : List Int} {x : Int} : x ∈ sortI l ↔ x ∈ l := List.mem_mergeSort
theorem sortI_len (l : List Int) : (sortI l).length = l.length := List.length_mergeSort l
theorem sortI_up (l : List Int) : (sortI l).Pairwise (· ≤ ·) := by
  have := List.pairwise_mergeSort (le := fun (x y : Int) => decide (x ≤ y)) (fun a b c h1 h2 => by simp only [decide_eq_true_eq] at *; omega) (fun a b => by simp only [Bool.or_eq_true, decide_eq_true_eq]; omega) l
  exact this.imp (fun h => by simpa using h)
theorem sortI_uniq {l s : List Int} (h1 : s.Pairwise (· ≤ ·)) (h2 : s.Perm l) : sortI l = s :=
  List.Perm.eq_of_pairwise (le := (· ≤ ·)) (fun a b _ _ h3 h4 => by have h3 : a ≤ b := h3; have h4 : b ≤ a := h4; omega) (sortI_up l) h1 ((sortI_perm l).trans h2.symm)
def putI (n : Int) (l : List Int) : List Int := l.takeWhile (fun x => decide (x < n)) ++ [n] ++ l.dropWhile (fun x => decide (x < n))
theorem dropWhile_le {n : Int} : ∀ {l : List Int}, l.Pairwise (· ≤ ·) → ∀ x ∈ l.dropWhile (fun x => decide (x < n)), n ≤ x
  | [], _, x, h => by cases h
  | a :: l, hp, x, h => by
    rw [List.dropWhile_cons] at h
    obtain ⟨h1, h2⟩ := List.pairwise_cons.1 hp
    by_cases ha : a < n
    · rw [if_pos (by simpa using ha)] at h
      exact dropWhile_le h2 x h
    · rw [if_neg (by simpa using ha)] at h
      rcases List.mem_cons.1 h with rfl | h
      · omega
      · have := h1 x h; omega
theorem takeWhile_lt {n : Int} : ∀ {l : List Int}, ∀ x ∈ l.takeWhile (fun x => decide (x < n)), x < n
  | [], x, h => by cases h
  | a :: l, x, h => by
    rw [List.takeWhile_cons] at h
    by_cases ha : a < n
    · rw [if_pos (by simpa using ha)] at h
      rcases List.mem_cons.1 h with rfl | h
      · exact ha
      · exact takeWhile_lt x h
    · rw [if_neg (by simpa using ha)] at h
      cases h
theorem putI_perm (n : Int) (l : List Int) : (putI n l).Perm (l ++ [n]) := by
  have e : l.takeWhile (fun x => decide (x < n)) ++ l.dropWhile (fun x => decide (x < n)) = l := List.takeWhile_append_dropWhile
  unfold putI
  refine List.Perm.trans ?_ (List.Perm.append_right [n] (List.Perm.of_eq e))
  rw [List.append_assoc, List.append_assoc]
  exact List.Perm.append_left _ List.perm_append_comm
theorem putI_up {n : Int} {l : List Int} (h : l.Pairwise (· ≤ ·)) : (putI n l).Pairwise (· ≤ ·) := by
  unfold putI
  have h1 := h.sublist (List.takeWhile_sublist (fun x => decide (x < n)))
  have h2 := h.sublist (List.dropWhile_sublist (fun x => decide (x < n)))
  rw [List.append_assoc, List.pairwise_append]
  refine ⟨h1, ?_, ?_⟩
  · exact List.pairwise_cons.2 ⟨fun x hx => dropWhile_le h x hx, h2⟩
  · intro a ha b hb
    have ha := takeWhile_lt a ha
    rcases List.mem_cons.1 hb with rfl | hb
    · omega
    · have := dropWhile_le h b hb; omega
theorem putI_sort (n : Int) (l : List Int) : putI n (sortI l) = sortI (l ++ [n]) :=
  (sortI_uniq (putI_up (sortI_up l)) ((putI_perm n (sortI l)).trans (List.Perm.append_right [n] (sortI_perm l)))).symm
/-- A loop that goes to the first place where p ends. -/
theorem loop_upto (L : Nat → Nat → Option R) (x : List α) (p : α → Bool) (F : Nat → Option R)
    (hs : ∀ m i (h : i < x.length), L (m + 1) i = bif p x[i] then L m (i + 1) else F i) (he : ∀ m, L (m + 1) x.length = F x.length) : ∀ m i, i ≤ x.length → x.length - i < m → L m i = F (i + ((x.drop i).takeWhile p).length) := by
  intro m
  induction m with
  | zero => intro i h1 h2; omega
  | succ m ih =>
    intro i h1 h2
    rcases Nat.lt_or_ge i x.length with h | h
    · rw [hs m i h, List.drop_eq_getElem_cons h, List.takeWhile_cons]
      cases hp : p x[i]
      · simp
      · rw [cond_true, ih (i + 1) (by omega) (by omega), if_pos rfl, List.length_cons]
        congr 1; omega
    · have : i = x.length := by omega
      subst this
      rw [he, List.drop_length]; simp
theorem take_tw (l : List Int) (p : Int → Bool) : l.take (l.takeWhile p).length = l.takeWhile p := by
  conv => lhs; arg 2; rw [← List.takeWhile_append_dropWhile (p := p) (l := l)]
  exact List.take_left
theorem drop_tw (l : List Int) (p : Int → Bool) : l.drop (l.takeWhile p).length = l.dropWhile p := by
  conv => lhs; arg 2; rw [← List.takeWhile_append_dropWhile (p := p) (l := l)]
  exact List.drop_left
theorem l1Put_eq {k : Nat} (l : List Int) (n : Int) (h : l.length < k) (hb : l.length ≤ 1000000) (hn : n ∉ l) (K : List Int → Option R) : spec_l1Put k l n K = K (putI n l) := by
  unfold spec_l1Put
  generalize hF : (fun (l1 : List Int) (n_2 : Int) (k_0 : Int) => _ : List Int → Int → Int → Option R) = F
  have := loop_upto (fun m i => spec_l1Put_l0 k F m l n (i : Int)) l (fun x => decide (x < n)) (fun i => F l n (i : Int)) ?_ ?_ k 0 (Nat.zero_le _) (by omega)
  · refine Eq.trans this ?_
    rw [List.drop_zero, Nat.zero_add]
    have ht := take_tw l (fun x => decide (x < n))
    have hd := drop_tw l (fun x => decide (x < n))
    have hle : (l.takeWhile (fun x => decide (x < n))).length ≤ l.length := List.Sublist.length_le (List.takeWhile_sublist _)
    obtain ⟨j, hj⟩ : ∃ j, j = (l.takeWhile (fun x => decide (x < n))).length := ⟨_, rfl⟩
    rw [← hj] at ht hd hle ⊢
    unfold putI
    rw [← ht, ← hd, ← hF]
    have e2 : List.drop j (List.take l.length l) = List.drop j l := by rw [List.take_length]
    have hj1 : (List.take j l).length = j := by rw [List.length_take]; omega
    show (bif decide ((j : Int) < (l.length : Int)) then _ else _) = _
    simp only [toNatC, List.nil_append, e2, List.drop_zero]
    have m1 : decide (0 + (List.take j l).length ≤ maxGrow) = true := decide_eq_true (by unfold maxGrow; omega)
    have m2 : decide ((List.take j l).length + [n].length ≤ maxGrow) = true := decide_eq_true (by unfold maxGrow; simp; omega)
    have m3 : decide ((List.take j l ++ [n]).length + (List.drop j l).length ≤ maxGrow) = true := decide_eq_true (by unfold maxGrow; simp; omega)
    have m4 : decide ((j : Int) ≤ (l.length : Int)) = true := decide_eq_true (by omega)
    rw [m1, m2, m3, m4, d0]
    rcases Nat.lt_or_ge j l.length with hlt | hge
    · have hne : l.getD j 0 ≠ n := by rw [getD_lt hlt]; intro e; exact hn (e ▸ List.getElem_mem hlt)
      rw [decide_eq_true (by omega : (j : Int) < (l.length : Int)), decide_eq_false hne]; rfl
    · rw [decide_eq_false (by omega : ¬ (j : Int) < (l.length : Int))]; rfl
  · intro m i hi
    show spec_l1Put_l0 k F (m + 1) l n (i : Int) = bif _ then spec_l1Put_l0 k F m l n ((i + 1 : Nat) : Int) else _
    rw [spec_l1Put_l0, dlt, d0, decide_eq_true hi, toNatC, getD_lt hi, wsucc (by omega)]
    rfl
  · intro m
    show spec_l1Put_l0 k F (m + 1) l n (l.length : Int) = _
    rw [spec_l1Put_l0, dlt, decide_eq_false (by omega)]; rfl
/-! ### the walk over a graph -/
section
variable (adj : Int → List Int) (op : Int → Bool)
def bfs1 (Q : List Int) (x : Int) : List Int := if op x = true ∧ x ∉ Q then Q ++ [x] else Q
def scanQ (Q : List Int) (c : Int) : List Int := (adj c).foldl (bfs1 op) Q
def runQ : Nat → Nat → List Int → List Int
  | 0, _, Q => Q
  | m + 1, i, Q => if i < Q.length then runQ m (i + 1) (scanQ adj op Q (Q.getD i 0)) else Q
/-- What can be reached. -/
inductive Rc (i : Int) : Int → Prop
  | refl : Rc i i
  | step {c x : Int} : Rc i c → x ∈ adj c → op x = true → Rc i x
/-- A list of places of the map, each once. -/
def okQ (N : Nat) (Q : List Int) : Prop := Q.Nodup ∧ ∀ x ∈ Q, 0 ≤ x ∧ x < (N : Int)
variable {adj op}
theorem okQ_len {N : Nat} {Q : List Int} (h : okQ N Q) : Q.length ≤ N := by
  have hs : Q ⊆ (List.range N).map fun (i : Nat) => (i : Int) := by
    intro x hx
    have := h.2 x hx
    exact List.mem_map.2 ⟨x.toNat, List.mem_range.2 (by omega), by omega⟩
  have := List.Nodup.length_le_of_subset h.1 hs
  simpa using this
theorem bfs1_ok {N : Nat} {Q : List Int} {x : Int} (h : okQ N Q) (hx : 0 ≤ x ∧ x < (N : Int)) : okQ N (bfs1 op Q x) := by
  unfold bfs1
  split
  · rename_i hn
    refine ⟨?_, ?_⟩
    · rw [List.nodup_append]
      refine ⟨h.1, by simp, ?_⟩
      intro a ha b hb
      rw [List.mem_singleton] at hb
      subst hb
      intro e; subst e; exact hn.2 ha
    · intro y hy
      rcases List.mem_append.1 hy with hy | hy
      · exact h.2 y hy
      · rw [List.mem_singleton] at hy; subst hy; exact hx
  · exact h
theorem fold_ok {N : Nat} : ∀ {l Q : List Int}, okQ N Q → (∀ x ∈ l, 0 ≤ x ∧ x < (N : Int)) → okQ N (l.foldl (bfs1 op) Q)
  | [], Q, h, _ => h
  | a :: l, Q, h, hl => fold_ok (l := l) (bfs1_ok h (hl a List.mem_cons_self)) (fun x hx => hl x (List.mem_cons_of_mem _ hx))
theorem bfs1_mem {Q : List Int} {x y : Int} : y ∈ bfs1 op Q x ↔ y ∈ Q ∨ (y = x ∧ op x = true) := by
  unfold bfs1
  split
  · rename_i h
    rw [List.mem_append, List.mem_singleton]
    exact ⟨fun h' => h'.imp id (fun e => ⟨e, h.1⟩), fun h' => h'.imp id (fun e => e.1)⟩
  · rename_i h
    refine ⟨.inl, ?_⟩
    rintro (h' | ⟨rfl, h2⟩)
    · exact h'
    · by_cases hm : y ∈ Q
      · exact hm
      · exact absurd ⟨h2, hm⟩ h
theorem fold_mem {y : Int} : ∀ {l Q : List Int}, y ∈ l.foldl (bfs1 op) Q ↔ y ∈ Q ∨ (y ∈ l ∧ op y = true)
  | [], Q => by simp
  | a :: l, Q => by
    rw [List.foldl_cons, fold_mem (l := l), bfs1_mem, List.mem_cons]
    constructor
    · rintro ((h | ⟨rfl, h⟩) | ⟨h1, h2⟩)
      · exact .inl h
      · exact .inr ⟨.inl rfl, h⟩
      · exact .inr ⟨.inr h1, h2⟩
    · rintro (h | ⟨rfl | h1, h2⟩)
      · exact .inl (.inl h)
      · exact .inl (.inr ⟨rfl, h2⟩)
      · exact .inr ⟨h1, h2⟩
theorem fold_pre : ∀ {l Q : List Int}, ∃ T, l.foldl (bfs1 op) Q = Q ++ T
  | [], Q => ⟨[], by simp⟩
  | a :: l, Q => by
    obtain ⟨T, h⟩ := fold_pre (l := l) (Q := bfs1 op Q a)
    rw [List.foldl_cons, h]
    unfold bfs1
    split
    · exact ⟨[a] ++ T, by simp⟩
    · exact ⟨T, rfl⟩
theorem scan_ok {N : Nat} (ha : ∀ c, ∀ x ∈ adj c, 0 ≤ x ∧ x < (N : Int)) {Q : List Int} {c : Int} (h : okQ N Q) : okQ N (scanQ adj op Q c) := fold_ok h (ha c)
/-- What holds of the queue. -/
structure QInv (adj : Int → List Int) (op : Int → Bool) (N : Nat) (i : Int) (n : Nat) (Q : List Int) : Prop where
  ok : okQ N Q
  le : n ≤ Q.length
  st : i ∈ Q
  rc : ∀ x ∈ Q, Rc adj op i x
  cl : ∀ j (h : j < Q.length), j < n → ∀ x ∈ adj Q[j], op x = true → x ∈ Q
theorem scan_inv {N : Nat} (ha : ∀ c, ∀ x ∈ adj c, 0 ≤ x ∧ x < (N : Int)) {i : Int} {n : Nat} {Q : List Int} (h : QInv adj op N i n Q) (hn : n < Q.length) : QInv adj op N i (n + 1) (scanQ adj op Q (Q.getD n 0)) := by
  have hq : Q.getD n 0 = Q[n] := getD_lt hn
  rw [hq]
  obtain ⟨T, hT⟩ := fold_pre (op := op) (l := adj Q[n]) (Q := Q)
  have hT : scanQ adj op Q Q[n] = Q ++ T := hT
  have hm : ∀ y, y ∈ scanQ adj op Q Q[n] ↔ y ∈ Q ∨ (y ∈ adj Q[n] ∧ op y = true) := fun y => fold_mem
  refine ⟨scan_ok ha h.ok, by rw [hT, List.length_append]; omega, (hm i).2 (.inl h.st), ?_, ?_⟩
  · intro x hx
    rcases (hm x).1 hx with hx | ⟨h1, h2⟩
    · exact h.rc x hx
    · exact .step (h.rc _ (List.getElem_mem hn)) h1 h2
  · intro j hj hjn x hx ho
    have hjQ : j < Q.length := by omega
    have e : (scanQ adj op Q Q[n])[j] = Q[j] := by
      simp only [hT]
      rw [List.getElem_append_left hjQ]
    rw [e] at hx
    rcases Nat.lt_or_ge j n with h1 | h1
    · exact (hm x).2 (.inl (h.cl j hjQ h1 x hx ho))
    · have : j = n := by omega
      subst this
      exact (hm x).2 (.inr ⟨hx, ho⟩)
theorem run_inv {N : Nat} (ha : ∀ c, ∀ x ∈ adj c, 0 ≤ x ∧ x < (N : Int)) {i : Int} : ∀ m n Q, QInv adj op N i n Q → N < m + n → QInv adj op N i (runQ adj op m n Q).length (runQ adj op m n Q)
  | 0, n, Q, h, hm => by have := okQ_len h.ok; have := h.le; omega
  | m + 1, n, Q, h, hm => by
    unfold runQ
    split
    · rename_i hn
      exact run_inv ha m (n + 1) _ (scan_inv ha h hn) (by omega)
    · rename_i hn
      have : n = Q.length := by have := h.le; omega
      subst this
      exact h
theorem QInv0 {N : Nat} {i : Int} (hi : 0 ≤ i ∧ i < (N : Int)) : QInv adj op N i 0 [i] :=
  ⟨⟨by simp, fun x hx => by rw [List.mem_singleton] at hx; subst hx; exact hi⟩, by simp, by simp, fun x hx => by rw [List.mem_singleton] at hx; subst hx; exact .refl, fun j _ h => by omega⟩
/-- The region of a place. -/
def comp (adj : Int → List Int) (op : Int → Bool) (k : Nat) (i : Int) : List Int := runQ adj op k 0 [i]
theorem comp_inv {N k : Nat} (ha : ∀ c, ∀ x ∈ adj c, 0 ≤ x ∧ x < (N : Int)) {i : Int} (hi : 0 ≤ i ∧ i < (N : Int)) (hk : N < k) : QInv adj op N i (comp adj op k i).length (comp adj op k i) := run_inv ha k 0 [i] (QInv0 hi) hk
theorem comp_mem {N k : Nat} (ha : ∀ c, ∀ x ∈ adj c, 0 ≤ x ∧ x < (N : Int)) {i : Int} (hi : 0 ≤ i ∧ i < (N : Int)) (hk : N < k) {x : Int} : x ∈ comp adj op k i ↔ Rc adj op i x := by
  have h := comp_inv (op := op) ha hi hk
  refine ⟨h.rc x, fun hr => ?_⟩
  induction hr with
  | refl => exact h.st
  | step _ h1 h2 ih =>
    obtain ⟨j, hj, rfl⟩ := List.getElem_of_mem ih
    exact h.cl j hj hj _ h1 h2
theorem Rc.trans {a b c : Int} (h1 : Rc adj op a b) (h2 : Rc adj op b c) : Rc adj op a c := by
  induction h2 with
  | refl => exact h1
  | step _ h3 h4 ih => exact .step ih h3 h4
theorem Rc.op_of {a b : Int} (h : Rc adj op a b) (ha : op a = true) : op b = true := by
  cases h with
  | refl => exact ha
  | step _ _ h => exact h
theorem Rc.symm (hs : ∀ c, op c = true → ∀ x ∈ adj c, c ∈ adj x) {a b : Int} (h : Rc adj op a b) (ha : op a = true) : Rc adj op b a := by
  induction h with
  | refl => exact .refl
  | step h1 h3 h4 ih => exact Rc.trans (.step .refl (hs _ (h1.op_of ha) _ h3) (h1.op_of ha)) ih
/-! ### the regions, one after another -/
def stepR (adj : Int → List Int) (op : Int → Bool) (k : Nat) (s : List (List Int) × List Int) (i : Int) : List (List Int) × List Int :=
  if i ∈ s.2 then s else (s.1 ++ [sortI (comp adj op k i)], s.2 ++ sortI (comp adj op k i))
/-- What holds of the regions. -/
structure RInv (adj : Int → List Int) (op : Int → Bool) (N k : Nat) (n : Nat) (l : List Int) (s : List (List Int) × List Int) : Prop where
  le1 : s.1.length ≤ n
  le2 : s.2.length ≤ N * n
  row : ∀ r ∈ s.1, ∃ j, (0 ≤ j ∧ j < (N : Int)) ∧ op j = true ∧ r = sortI (comp adj op k j)
  cl : ∀ c ∈ s.2, op c = true ∧ ∀ x ∈ adj c, op x = true → x ∈ s.2
  all : ∀ i ∈ l, ∃ r ∈ s.1, i ∈ r
  mem : ∀ i ∈ s.2, ∃ r ∈ s.1, i ∈ r
theorem RInv0 {N k : Nat} : RInv adj op N k 0 [] ([], []) := ⟨by simp, by simp, by simp, by simp, by simp, by simp⟩
theorem stepR_inv {N k n : Nat} (ha : ∀ c, ∀ x ∈ adj c, 0 ≤ x ∧ x < (N : Int)) (hk : N < k) {l : List Int} {s : List (List Int) × List Int} (h : RInv adj op N k n l s) {i : Int} (hi : 0 ≤ i ∧ i < (N : Int)) (ho : op i = true) : RInv adj op N k (n + 1) (l ++ [i]) (stepR adj op k s i) := by
  unfold stepR
  split
  · rename_i hm
    refine ⟨by have := h.le1; omega, by have := h.le2; rw [Nat.mul_add]; omega, h.row, h.cl, ?_, h.mem⟩
    intro y hy
    rcases List.mem_append.1 hy with hy | hy
    · exact h.all y hy
    · rw [List.mem_singleton] at hy; subst hy; exact h.mem _ hm
  · have hc := comp_inv (op := op) ha hi hk
    have hl := okQ_len hc.ok
    have hmem : ∀ y, y ∈ sortI (comp adj op k i) ↔ Rc adj op i y := fun y => by rw [sortI_mem, comp_mem ha hi hk]
    refine ⟨?_, ?_, ?_, ?_, ?_, ?_⟩
    · simp only [List.length_append, List.length_singleton]; have := h.le1; omega
    · simp only [List.length_append, sortI_len]; have := h.le2; rw [Nat.mul_add]; omega
    · intro r hr
      rcases List.mem_append.1 hr with hr | hr
      · exact h.row r hr
      · rw [List.mem_singleton] at hr; subst hr; exact ⟨i, hi, ho, rfl⟩
    · intro c hcm
      rcases List.mem_append.1 hcm with hcm | hcm
      · exact ⟨(h.cl c hcm).1, fun x hx hox => List.mem_append_left _ ((h.cl c hcm).2 x hx hox)⟩
      · have hr := (hmem c).1 hcm
        exact ⟨hr.op_of ho, fun x hx hox => List.mem_append_right _ ((hmem x).2 (.step hr hx hox))⟩
    · intro y hy
      rcases List.mem_append.1 hy with hy | hy
      · obtain ⟨r, hr, hy⟩ := h.all y hy
        exact ⟨r, List.mem_append_left _ hr, hy⟩
      · rw [List.mem_singleton] at hy; subst hy
        exact ⟨_, List.mem_append_right _ (List.mem_singleton.2 rfl), (hmem y).2 .refl⟩
    · intro y hy
      rcases List.mem_append.1 hy with hy | hy
      · obtain ⟨r, hr, hy⟩ := h.mem y hy
        exact ⟨r, List.mem_append_left _ hr, hy⟩
      · exact ⟨_, List.mem_append_right _ (List.mem_singleton.2 rfl), hy⟩
end
end
end Go.Lg
/- Regions of a board: what the functions answer. -/
set_option linter.unusedSimpArgs false
set_option linter.unusedVariables false
namespace Go.Lg
open Go Go.Ev
section
variable {R α σ ι : Type}
theorem has_dec (l : List Int) (n : Int) : (!l.all fun x => !decide (x = n)) = decide (n ∈ l) := by
  rw [Bool.eq_iff_iff]
  simp only [Bool.not_eq_true', List.all_eq_false, Bool.not_eq_eq_eq_not, Bool.not_true, decide_eq_true_eq, Bool.not_eq_true', decide_eq_false_iff_not, Classical.not_not]
  exact ⟨fun ⟨x, h, e⟩ => e ▸ h, fun h => ⟨n, h, rfl⟩⟩
def adjB (b : BrdT) (c : Int) : List Int := neighV b.2 c 6
def opB (b : BrdT) (kind x : Int) : Bool := (decide (0 ≤ x) && decide (x < area b)) && decide (0 < costAt b kind x)
theorem opB_in {b : BrdT} {kind x : Int} (h : 0 ≤ x ∧ x < area b) : opB b kind x = decide (0 < costAt b kind x) := by
  unfold opB; rw [decide_eq_true h.1, decide_eq_true h.2]; rfl
theorem opB_iff {b : BrdT} {kind x : Int} : opB b kind x = true ↔ (0 ≤ x ∧ x < area b) ∧ 0 < costAt b kind x := by
  unfold opB; simp only [Bool.and_eq_true, decide_eq_true_eq]
/-! ### a neighbour's neighbour -/
theorem hexAt_in {m : MapT} (hm : mapDim m) {h : Int × Int} (hb : (inB h.1 0 (m.1 - 1) && inB h.2 0 (m.2.1 - 1)) = true) : hexAt m (h.2 * m.1 + h.1) = h := by
  have hl := mul_lt_area hm hb
  simp only [Bool.and_eq_true, inB_iff] at hb
  obtain ⟨⟨h1, h2⟩, h3, h4⟩ := hb
  obtain ⟨⟨m1, m2⟩, m3, m4⟩ := hm
  unfold hexAt
  rw [Int.tmod_eq_emod_of_nonneg (by omega), Int.tdiv_eq_ediv_of_nonneg (by omega)]
  have e1 : (h.2 * m.1 + h.1) % m.1 = h.1 := by
    rw [Int.add_comm, Int.add_mul_emod_self_right]; exact Int.emod_eq_of_lt h1 (by omega)
  have e2 : (h.2 * m.1 + h.1) / m.1 = h.2 := by
    rw [Int.add_comm, Int.add_mul_ediv_right _ _ (by omega), Int.ediv_eq_zero_of_lt h1 (by omega)]; omega
  rw [e1, e2]
theorem hexAt_box {m : MapT} (hm : mapDim m) {i : Int} (hi : 0 ≤ i ∧ i < m.1 * m.2.1) : (inB (hexAt m i).1 0 (m.1 - 1) && inB (hexAt m i).2 0 (m.2.1 - 1)) = true ∧ (hexAt m i).2 * m.1 + (hexAt m i).1 = i := by
  obtain ⟨⟨m1, m2⟩, m3, m4⟩ := hm
  unfold hexAt
  rw [Int.tmod_eq_emod_of_nonneg hi.1, Int.tdiv_eq_ediv_of_nonneg hi.1]
  have e1 := Int.emod_nonneg i (by omega : m.1 ≠ 0)
  have e2 := Int.emod_lt_of_pos i (by omega : 0 < m.1)
  have e3 : 0 ≤ i / m.1 := Int.ediv_nonneg hi.1 (by omega)
  have e4 : i / m.1 < m.2.1 := Int.ediv_lt_of_lt_mul (by omega) (by rw [Int.mul_comm]; exact hi.2)
  have e5 : i / m.1 * m.1 + i % m.1 = i := by rw [Int.mul_comm]; exact Int.mul_ediv_add_emod i m.1
  refine ⟨?_, e5⟩
  simp only [Bool.and_eq_true, inB_iff]
  exact ⟨⟨e1, by omega⟩, e3, by omega⟩
def opp (d : Nat) : Nat := (d + 3) % 6
theorem step_opp (h : Int × Int) {d : Nat} (hd : d < 6) : step (step h (d : Int)) (opp d : Int) = h := by
  have : d = 0 ∨ d = 1 ∨ d = 2 ∨ d = 3 ∨ d = 4 ∨ d = 5 := by omega
  unfold step
  obtain ⟨x, y⟩ := h
  rcases this with rfl | rfl | rfl | rfl | rfl | rfl <;> (rw [toNatC, toNatC]; simp [opp, impl_directions]; try omega)
theorem nextOf_back {m : MapT} (hm : mapDim m) {i : Int} (hi : 0 ≤ i ∧ i < m.1 * m.2.1) {d : Nat} (hd : d < 6) (h : 0 ≤ nextOf m i (d : Int)) : nextOf m (nextOf m i (d : Int)) (opp d : Int) = i := by
  have hb : (inB (step (hexAt m i) (d : Int)).1 0 (m.1 - 1) && inB (step (hexAt m i) (d : Int)).2 0 (m.2.1 - 1)) = true := by
    cases hb : (inB (step (hexAt m i) (d : Int)).1 0 (m.1 - 1) && inB (step (hexAt m i) (d : Int)).2 0 (m.2.1 - 1))
    · unfold nextOf ixOf at h
      rw [hb] at h
      simp at h
    · rfl
  obtain ⟨h1, h2⟩ := hexAt_box hm hi
  have e : nextOf m i (d : Int) = (step (hexAt m i) (d : Int)).2 * m.1 + (step (hexAt m i) (d : Int)).1 := by
    unfold nextOf ixOf
    rw [hb]; rfl
  rw [e]
  show ixOf m (step (hexAt m ((step (hexAt m i) (d : Int)).2 * m.1 + (step (hexAt m i) (d : Int)).1)) (opp d : Int)) = i
  rw [hexAt_in hm hb, step_opp _ hd]
  unfold ixOf
  rw [h1]
  exact h2
theorem mem_neighV {m : MapT} {i x : Int} {n : Nat} : x ∈ neighV m i n ↔ ∃ d : Nat, d < n ∧ 0 ≤ nextOf m i (d : Int) ∧ x = nextOf m i (d : Int) := by
  constructor
  · intro h
    obtain ⟨d, h1, h2, h3⟩ := filtV_mem h
    exact ⟨d, h1, by simpa using h2, h3⟩
  · rintro ⟨d, h1, h2, rfl⟩
    unfold neighV filtV
    exact List.mem_map.2 ⟨d, List.mem_filter.2 ⟨List.mem_range.2 h1, by simpa using h2⟩, rfl⟩
section
variable {b : BrdT} (hg : goodB b = true) {kind : Int} (hk : 0 ≤ kind ∧ kind < (b.1.2.1.length : Int))
include hg
theorem adjB_in : ∀ c, ∀ x ∈ adjB b c, 0 ≤ x ∧ x < (b.2.2.2.1.length : Int) := by
  intro c x hx
  have := neighV_mem (good_dim (good_brd hg).2.1) hx
  rw [(area_ok hg).1]; exact this
theorem adjB_sym : ∀ c, opB b kind c = true → ∀ x ∈ adjB b c, c ∈ adjB b x := by
  intro c hc x hx
  have hc := (opB_iff.1 hc).1
  obtain ⟨d, h1, h2, rfl⟩ := mem_neighV.1 hx
  have := nextOf_back (good_dim (good_brd hg).2.1) hc h1 h2
  refine mem_neighV.2 ⟨opp d, by unfold opp; omega, ?_, this.symm⟩
  rw [this]; exact hc.1
include hk
theorem sReg_l0 {k q : Nat} (hq : 10 < q) (hkk : 200 < k) {Q : List Int} (hQ : okQ b.2.2.2.1.length Q) {n : Nat} (hn : n < Q.length) (K0 : Int → List Int → Int → BrdT → List Int → Option R) :
    spec_bRegion_l0 k K0 q kind (sortI Q) (n : Int) (0 : Int) b Q = K0 kind (sortI (scanQ (adjB b) (opB b kind) Q (Q.getD n 0))) (n : Int) b (scanQ (adjB b) (opB b kind) Q (Q.getD n 0)) := by
  obtain ⟨h1, h2, h3⟩ := area_ok hg
  have hm := good_dim (good_brd hg).2.1
  have hc : 0 ≤ Q.getD n 0 ∧ Q.getD n 0 < area b := by
    rw [getD_lt hn, ← h1]; exact hQ.2 _ (List.getElem_mem hn)
  unfold scanQ adjB
  refine loop_det (fun q d (s : List Int) => spec_bRegion_l0 k K0 q kind (sortI s) (n : Int) (d : Int) b s) 6 (fun d => (neighV b.2 (Q.getD n 0) d).foldl (bfs1 (opB b kind)) Q) _ ?_ ?_ q 0 (by omega) (by omega)
  · intro q d hd
    have hr := nextOf_lt hm (Q.getD n 0) (d : Int)
    have hok : okQ b.2.2.2.1.length ((neighV b.2 (Q.getD n 0) d).foldl (bfs1 (opB b kind)) Q) := fold_ok hQ (fun x hx => by have := neighV_mem hm hx; rw [h1]; exact this)
    obtain ⟨T, hT⟩ := fold_pre (op := opB b kind) (l := neighV b.2 (Q.getD n 0) d) (Q := Q)
    have hget : ((neighV b.2 (Q.getD n 0) d).foldl (bfs1 (opB b kind)) Q).getD n 0 = Q.getD n 0 := by
      rw [hT, getD_lt (by rw [List.length_append]; omega), getD_lt hn, List.getElem_append_left hn]
    have hlen : n < ((neighV b.2 (Q.getD n 0) d).foldl (bfs1 (opB b kind)) Q).length := by rw [hT, List.length_append]; omega
    have e : (neighV b.2 (Q.getD n 0) (d + 1)).foldl (bfs1 (opB b kind)) Q = if 0 ≤ nextOf b.2 (Q.getD n 0) (d : Int) then bfs1 (opB b kind) ((neighV b.2 (Q.getD n 0) d).foldl (bfs1 (opB b kind)) Q) (nextOf b.2 (Q.getD n 0) (d : Int)) else (neighV b.2 (Q.getD n 0) d).foldl (bfs1 (opB b kind)) Q := by
      unfold neighV
      rw [filtV_succ]
      by_cases h : 0 ≤ nextOf b.2 (Q.getD n 0) (d : Int)
      · rw [decide_eq_true h, if_pos rfl, if_pos h, List.foldl_append]; rfl
      · rw [decide_eq_false h, if_neg (by simp), if_neg h]
    show spec_bRegion_l0 k K0 (q + 1) kind (sortI ((neighV b.2 (Q.getD n 0) d).foldl (bfs1 (opB b kind)) Q)) (n : Int) (d : Int) b ((neighV b.2 (Q.getD n 0) d).foldl (bfs1 (opB b kind)) Q) = spec_bRegion_l0 k K0 q kind (sortI ((neighV b.2 (Q.getD n 0) (d + 1)).foldl (bfs1 (opB b kind)) Q)) (n : Int) ((d + 1 : Nat) : Int) b ((neighV b.2 (Q.getD n 0) (d + 1)).foldl (bfs1 (opB b kind)) Q)
    rw [e]
    generalize (neighV b.2 (Q.getD n 0) d).foldl (bfs1 (opB b kind)) Q = S at *
    have hSl := okQ_len hok
    rw [spec_bRegion_l0, decide_eq_true (by omega : (d : Int) < 6), cond_true, d0, dlt, decide_eq_true hlen, toNatC, hget, mNext_eq hm (by omega) (by omega), wsucc (by omega)]
    generalize hR : nextOf b.2 (Q.getD n 0) (d : Int) = r at *
    by_cases h : 0 ≤ r
    · have hin : 0 ≤ r ∧ r < area b := ⟨h, hr.2⟩
      rw [decide_eq_true h, if_pos h, Bool.and_self, cond_true, cond_true, bCost_eq hg hin hk]
      unfold bfs1
      rw [opB_in hin]
      by_cases hcost : 0 < costAt b kind r
      · rw [decide_eq_true hcost, cond_true, l1Has_eq _ _ (by rw [sortI_len]; omega) (by rw [sortI_len]; omega), has_dec]
        by_cases hmem : r ∈ S
        · rw [decide_eq_true (sortI_mem.2 hmem), if_neg (fun h => h.2 hmem)]; rfl
        · have hmem' : r ∉ sortI S := fun h => hmem (sortI_mem.1 h)
          rw [decide_eq_false hmem', if_pos ⟨rfl, hmem⟩, Bool.not_false, cond_true, l1Put_eq _ _ (by rw [sortI_len]; omega) (by rw [sortI_len]; omega) hmem', putI_sort, decide_eq_true (by unfold maxGrow; simp; omega)]
          rfl
      · rw [decide_eq_false hcost, if_neg (fun h => by cases h.1)]; rfl
    · rw [decide_eq_false h, if_neg h]; rfl
  · intro q
    show spec_bRegion_l0 k K0 (q + 1) kind _ (n : Int) ((6 : Nat) : Int) b _ = _
    rw [spec_bRegion_l0, decide_eq_false (by omega)]; rfl
theorem sReg_l1 {k : Nat} (hkk : 200 < k) {i : Int} (K0 : List Int → Option R) : ∀ m n Q, QInv (adjB b) (opB b kind) b.2.2.2.1.length i n Q → b.2.2.2.1.length < m + n →
    spec_bRegion_l1 k K0 m kind (sortI Q) (n : Int) b Q = K0 (sortI (runQ (adjB b) (opB b kind) m n Q))
  | 0, n, Q, h, hm => by have := okQ_len h.ok; have := h.le; omega
  | m + 1, n, Q, h, hm => by
    obtain ⟨h1, h2, h3⟩ := area_ok hg
    have hl := okQ_len h.ok
    have hle := h.le
    rw [spec_bRegion_l1]
    unfold runQ
    by_cases hn : n < Q.length
    · rw [dlt, decide_eq_true hn, cond_true, if_pos hn, sReg_l0 hg hk (by omega) hkk h.ok hn, wsucc (by omega)]
      exact sReg_l1 hkk K0 m (n + 1) _ (scan_inv (adjB_in hg) h hn) (by omega)
    · rw [dlt, decide_eq_false hn, if_neg hn]; rfl
theorem bRegion_eq {k : Nat} (hkk : 200 < k) {i : Int} (hi : 0 ≤ i ∧ i < area b) (K : List Int → Option R) : spec_bRegion k b kind i K = K (sortI (comp (adjB b) (opB b kind) k i)) := by
  obtain ⟨h1, h2, h3⟩ := area_ok hg
  unfold spec_bRegion comp
  have e : [i] = sortI [i] := (sortI_uniq (by simp) (List.Perm.refl _)).symm
  have := sReg_l1 hg hk hkk (fun x => K x) k 0 [i] (QInv0 (by rw [h1]; exact hi)) (by omega)
  rw [← e] at this
  exact this
end
/-! ### the marks of what was seen -/
def seenV (N : Nat) (S : List Int) : List Bool := (List.range N).map fun (i : Nat) => decide ((i : Int) ∈ S)
theorem seenV_len (N : Nat) (S : List Int) : (seenV N S).length = N := by simp [seenV]
theorem seenV_get {N : Nat} {S : List Int} {x : Int} (hx : 0 ≤ x ∧ x < (N : Int)) : List.getD (seenV N S) (Int.toNat x) false = decide (x ∈ S) := by
  rw [getD_lt (by rw [seenV_len]; omega)]
  unfold seenV
  rw [List.getElem_map, List.getElem_range]
  rw [show ((x.toNat : Nat) : Int) = x by omega]
theorem seenV_congr {N : Nat} {S T : List Int} (h : ∀ x, x ∈ S ↔ x ∈ T) : seenV N S = seenV N T := by
  unfold seenV
  exact List.map_congr_left fun i _ => by rw [decide_eq_decide]; exact h _
theorem seenV_set {N : Nat} {S : List Int} {x : Int} (hx : 0 ≤ x ∧ x < (N : Int)) : List.set (seenV N S) (Int.toNat x) true = seenV N (S ++ [x]) := by
  refine List.ext_getElem (by simp [seenV]) ?_
  intro j h1 h2
  rw [List.getElem_set]
  simp only [seenV, List.getElem_map, List.getElem_range]
  split
  · rename_i h
    subst h
    have : ((x.toNat : Nat) : Int) = x := by omega
    rw [this]; simp
  · rename_i h
    rw [decide_eq_decide, List.mem_append, List.mem_singleton]
    exact ⟨.inl, fun h' => h'.elim id (fun e => by omega)⟩
theorem seenV_nil (N : Nat) : List.replicate N false = seenV N [] := by
  refine List.ext_getElem (by simp [seenV]) ?_
  intro j h1 h2
  simp [seenV]
section
variable {b : BrdT} (hg : goodB b = true) {kind : Int} (hk : 0 ≤ kind ∧ kind < (b.1.2.1.length : Int))
include hg hk
theorem iReg_l0 {k q : Nat} (hq : 10 < q) (D : List Int) (x18 x19 x20 : Int) (x25 : List (List Int)) (x28 : List Int) {Q : List Int} (hQ : okQ b.2.2.2.1.length Q) {c : Int} (hc : 0 ≤ c ∧ c < area b) (hD : ∀ x ∈ adjB b c, opB b kind x = true → x ∉ D)
    (K0 : Int → Int → Int → Int → BrdT → List (List Int) → List Bool → List Int → List Int → Option R) :
    impl_regionsOf_l0 k K0 q kind x18 x19 x20 (neighV b.2 c 6) ((neighV b.2 c 6).length : Int) (0 : Int) b x25 (seenV b.2.2.2.1.length (D ++ Q)) Q x28
      = K0 kind x18 x19 x20 b x25 (seenV b.2.2.2.1.length (D ++ scanQ (adjB b) (opB b kind) Q c)) (scanQ (adjB b) (opB b kind) Q c) x28 := by
  obtain ⟨h1, h2, h3⟩ := area_ok hg
  have hm := good_dim (good_brd hg).2.1
  have hl6 : (neighV b.2 c 6).length ≤ 6 := filtV_len _ _ _
  refine loop_det (fun q j (s : List Int) => impl_regionsOf_l0 k K0 q kind x18 x19 x20 (neighV b.2 c 6) ((neighV b.2 c 6).length : Int) (j : Int) b x25 (seenV b.2.2.2.1.length (D ++ s)) s x28) (neighV b.2 c 6).length (fun j => ((neighV b.2 c 6).take j).foldl (bfs1 (opB b kind)) Q) _ ?_ ?_ q 0 (by omega) (by omega)
  · intro q j hj
    have hok : okQ b.2.2.2.1.length (((neighV b.2 c 6).take j).foldl (bfs1 (opB b kind)) Q) := fold_ok hQ (fun x hx => by have := neighV_mem hm (List.mem_of_mem_take hx); rw [h1]; exact this)
    have hin := neighV_mem hm (List.getElem_mem hj)
    have hin' : 0 ≤ (neighV b.2 c 6)[j] ∧ (neighV b.2 c 6)[j] < area b := hin
    have hDj := hD _ (List.getElem_mem hj)
    have e : ((neighV b.2 c 6).take (j + 1)).foldl (bfs1 (opB b kind)) Q = bfs1 (opB b kind) (((neighV b.2 c 6).take j).foldl (bfs1 (opB b kind)) Q) (neighV b.2 c 6)[j] := by
      rw [List.take_succ_eq_append_getElem hj, List.foldl_append]; rfl
    show impl_regionsOf_l0 k K0 (q + 1) kind x18 x19 x20 (neighV b.2 c 6) _ (j : Int) b x25 (seenV b.2.2.2.1.length (D ++ ((neighV b.2 c 6).take j).foldl (bfs1 (opB b kind)) Q)) (((neighV b.2 c 6).take j).foldl (bfs1 (opB b kind)) Q) x28
      = impl_regionsOf_l0 k K0 q kind x18 x19 x20 (neighV b.2 c 6) _ ((j + 1 : Nat) : Int) b x25 (seenV b.2.2.2.1.length (D ++ ((neighV b.2 c 6).take (j + 1)).foldl (bfs1 (opB b kind)) Q)) (((neighV b.2 c 6).take (j + 1)).foldl (bfs1 (opB b kind)) Q) x28
    rw [e]
    generalize ((neighV b.2 c 6).take j).foldl (bfs1 (opB b kind)) Q = S at *
    have hSl := okQ_len hok
    rw [impl_regionsOf_l0, dlt, d0, decide_eq_true hj, toNatC, getD_lt hj, seenV_len, wsucc (by omega)]
    generalize (neighV b.2 c 6)[j] = r at *
    have hr : 0 ≤ r ∧ r < (b.2.2.2.1.length : Int) := by rw [h1]; exact hin'
    rw [decide_eq_true hr.1, decide_eq_true hr.2, seenV_get hr, enterCost_eq hg hin' hk, seenV_set hr]
    have hcost := costAt_ok hg hin' hk
    unfold bfs1
    rw [opB_in hin'] at hDj ⊢
    have hgrow : decide (S.length + [r].length ≤ maxGrow) = true := decide_eq_true (by unfold maxGrow; simp; omega)
    rw [hgrow]
    by_cases hc0 : 0 < costAt b kind r
    · have hnD := hDj (decide_eq_true hc0)
      by_cases hmS : r ∈ S
      · rw [if_neg (fun h => h.2 hmS), decide_eq_true (List.mem_append_right _ hmS)]; rfl
      · rw [if_pos ⟨decide_eq_true hc0, hmS⟩, decide_eq_false (by rw [List.mem_append]; exact fun h => h.elim hnD hmS), decide_eq_false (by omega), List.append_assoc]; rfl
    · rw [if_neg (fun h => hc0 (by simpa using h.1)), decide_eq_true (by omega : costAt b kind r = 0)]
      cases decide (r ∈ D ++ S) <;> rfl
  · intro q
    show impl_regionsOf_l0 k K0 (q + 1) kind x18 x19 x20 (neighV b.2 c 6) ((neighV b.2 c 6).length : Int) ((neighV b.2 c 6).length : Int) b x25 _ _ x28 = _
    rw [impl_regionsOf_l0, dlt, decide_eq_false (by omega), List.take_length]; rfl
theorem iReg_l1 {k : Nat} (hkk : 200 < k) {i : Int} (hi : opB b kind i = true) (D : List Int) (hiD : i ∉ D) (hD : ∀ c ∈ D, opB b kind c = true ∧ ∀ x ∈ adjB b c, opB b kind x = true → x ∈ D) (x10 x11 : Int) (x13 : List (List Int)) (x16 : List Int)
    (K0 : Int → Int → Int → BrdT → List (List Int) → List Bool → List Int → List Int → Option R) : ∀ m n Q, QInv (adjB b) (opB b kind) b.2.2.2.1.length i n Q → b.2.2.2.1.length < m + n →
    impl_regionsOf_l1 k K0 m kind (n : Int) x10 x11 b x13 (seenV b.2.2.2.1.length (D ++ Q)) Q x16 = K0 kind x10 x11 b x13 (seenV b.2.2.2.1.length (D ++ runQ (adjB b) (opB b kind) m n Q)) (runQ (adjB b) (opB b kind) m n Q) x16
  | 0, n, Q, h, hm => by have := okQ_len h.ok; have := h.le; omega
  | m + 1, n, Q, h, hm => by
    obtain ⟨h1, h2, h3⟩ := area_ok hg
    have hl := okQ_len h.ok
    have hle := h.le
    rw [impl_regionsOf_l1]
    unfold runQ
    by_cases hn : n < Q.length
    · have hcin : 0 ≤ Q.getD n 0 ∧ Q.getD n 0 < area b := by
        rw [getD_lt hn, ← h1]; exact h.ok.2 _ (List.getElem_mem hn)
      have hrc : Rc (adjB b) (opB b kind) i (Q.getD n 0) := by rw [getD_lt hn]; exact h.rc _ (List.getElem_mem hn)
      have hco := hrc.op_of hi
      have hcD : Q.getD n 0 ∉ D := by
        intro hc
        have hback := hrc.symm (adjB_sym hg) hi
        have : ∀ {y}, Rc (adjB b) (opB b kind) (Q.getD n 0) y → y ∈ D := by
          intro y hy
          induction hy with
          | refl => exact hc
          | step _ g1 g2 ih => exact (hD _ ih).2 _ g1 g2
        exact hiD (this hback)
      have hDx : ∀ x ∈ adjB b (Q.getD n 0), opB b kind x = true → x ∉ D := by
        intro x hx hox hxD
        exact hcD ((hD x hxD).2 _ (adjB_sym hg _ hco x hx) hco)
      rw [dlt, decide_eq_true hn, cond_true, d0, if_pos hn, toNatC, Bool.and_self, cond_true, neighboursOn_eq (by omega) (good_dim (good_brd hg).2.1) (by omega), iReg_l0 hg hk (by omega) D _ _ _ _ _ h.ok hcin hDx, wsucc (by omega)]
      exact iReg_l1 hkk hi D hiD hD x10 x11 x13 x16 K0 m (n + 1) _ (scan_inv (adjB_in hg) h hn) (by omega)
    · rw [dlt, decide_eq_false hn, if_neg hn]; rfl
def regsV (b : BrdT) (kind : Int) (k n : Nat) : List (List Int) × List Int := ((openV b kind b.2.2.2.1.length).take n).foldl (stepR (adjB b) (opB b kind) k) ([], [])
theorem openV_op {i : Nat} (hi : i < (openV b kind b.2.2.2.1.length).length) : (0 ≤ (openV b kind b.2.2.2.1.length)[i] ∧ (openV b kind b.2.2.2.1.length)[i] < (b.2.2.2.1.length : Int)) ∧ opB b kind (openV b kind b.2.2.2.1.length)[i] = true := by
  obtain ⟨h1, h2, h3⟩ := area_ok hg
  have := openV_mem (List.getElem_mem hi)
  exact ⟨⟨this.1, this.2.1⟩, opB_iff.2 ⟨⟨this.1, by omega⟩, this.2.2⟩⟩
theorem regsV_inv {k : Nat} (hkk : 200 < k) : ∀ n, n ≤ (openV b kind b.2.2.2.1.length).length → RInv (adjB b) (opB b kind) b.2.2.2.1.length k n ((openV b kind b.2.2.2.1.length).take n) (regsV b kind k n)
  | 0, _ => by unfold regsV; rw [List.take_zero]; exact RInv0
  | n + 1, h => by
    obtain ⟨h1, h2, h3⟩ := area_ok hg
    have ho := openV_op hg hk (i := n) (by omega)
    have := stepR_inv (adjB_in hg) (by omega) (regsV_inv hkk n (by omega)) ho.1 ho.2
    unfold regsV at *
    rw [List.take_succ_eq_append_getElem (by omega), List.foldl_append]
    exact this
theorem regsV_succ {k n : Nat} (hn : n < (openV b kind b.2.2.2.1.length).length) : regsV b kind k (n + 1) = stepR (adjB b) (opB b kind) k (regsV b kind k n) (openV b kind b.2.2.2.1.length)[n] := by
  unfold regsV
  rw [List.take_succ_eq_append_getElem hn, List.foldl_append]; rfl
theorem iReg_l2 {k : Nat} (hkk : 200 < k) (K0 : List (List Int) → Option R) : impl_regionsOf_l2 k K0 k kind ((openV b kind b.2.2.2.1.length).length : Int) (0 : Int) b [] (seenV b.2.2.2.1.length []) (openV b kind b.2.2.2.1.length) = K0 (regsV b kind k (openV b kind b.2.2.2.1.length).length).1 := by
  obtain ⟨h1, h2, h3⟩ := area_ok hg
  have hlo := openV_len b kind b.2.2.2.1.length
  refine loop_det (fun q j (s : List (List Int) × List Int) => impl_regionsOf_l2 k K0 q kind ((openV b kind b.2.2.2.1.length).length : Int) (j : Int) b s.1 (seenV b.2.2.2.1.length s.2) (openV b kind b.2.2.2.1.length)) (openV b kind b.2.2.2.1.length).length (fun j => regsV b kind k j) _ ?_ ?_ k 0 (by omega) (by omega)
  · intro q j hj
    have hI := regsV_inv hg hk hkk j (by omega)
    obtain ⟨hin, hop⟩ := openV_op hg hk hj
    show impl_regionsOf_l2 k K0 (q + 1) kind _ (j : Int) b (regsV b kind k j).1 (seenV b.2.2.2.1.length (regsV b kind k j).2) (openV b kind b.2.2.2.1.length) = impl_regionsOf_l2 k K0 q kind _ ((j + 1 : Nat) : Int) b (regsV b kind k (j + 1)).1 (seenV b.2.2.2.1.length (regsV b kind k (j + 1)).2) (openV b kind b.2.2.2.1.length)
    rw [regsV_succ hg hk hj]
    generalize regsV b kind k j = s at *
    obtain ⟨out, D⟩ := s
    rw [impl_regionsOf_l2, dlt, d0, decide_eq_true hj, toNatC, getD_lt hj, seenV_len, wsucc (by omega)]
    generalize (openV b kind b.2.2.2.1.length)[j] = i at *
    rw [decide_eq_true hin.1, decide_eq_true hin.2, seenV_get hin, seenV_set hin]
    unfold stepR
    by_cases hmem : i ∈ D
    · rw [decide_eq_true hmem, if_pos hmem]; rfl
    · have hq := iReg_l1 (R := R) hg hk hkk hop D hmem hI.cl ((openV b kind b.2.2.2.1.length).length : Int) (j : Int) out (openV b kind b.2.2.2.1.length)
      have hl1 : out.length ≤ j := hI.le1
      have hlc := okQ_len (comp_inv (op := opB b kind) (k := k) (adjB_in hg) hin (by omega)).ok
      have hsort : ∀ (K : List Int → Option R), slices_Sort (comp (adjB b) (opB b kind) k i) K = K (sortI (comp (adjB b) (opB b kind) k i)) := fun K => by
        unfold slices_Sort; rw [decide_eq_true (by omega)]; rfl
      rw [decide_eq_false hmem, if_neg hmem]
      show impl_regionsOf_l1 k _ k kind ((0 : Nat) : Int) _ _ b out (seenV b.2.2.2.1.length (D ++ [i])) [i] _ = _
      rw [hq _ k 0 [i] (QInv0 hin) (by omega)]
      show slices_Sort (comp (adjB b) (opB b kind) k i) _ = _
      rw [hsort, decide_eq_true (by unfold maxGrow; simp; omega), cond_true, wsucc (by omega)]
      show impl_regionsOf_l2 k K0 q kind _ _ b _ (seenV _ (D ++ comp (adjB b) (opB b kind) k i)) _ = impl_regionsOf_l2 k K0 q kind _ _ b _ (seenV _ (D ++ sortI (comp (adjB b) (opB b kind) k i))) _
      rw [seenV_congr (S := D ++ comp (adjB b) (opB b kind) k i) (T := D ++ sortI (comp (adjB b) (opB b kind) k i)) (fun x => by rw [List.mem_append, List.mem_append, sortI_mem])]
  · intro q
    show impl_regionsOf_l2 k K0 (q + 1) kind ((openV b kind b.2.2.2.1.length).length : Int) ((openV b kind b.2.2.2.1.length).length : Int) b _ _ _ = _
    rw [impl_regionsOf_l2, dlt, decide_eq_false (by omega)]; rfl
def regs (b : BrdT) (kind : Int) (k : Nat) : List (List Int) := (regsV b kind k (openV b kind b.2.2.2.1.length).length).1
theorem regionsOf_eq {k : Nat} (hkk : 200 < k) (K : List (List Int) → Option R) : impl_regionsOf k b kind K = K (regs b kind k) := by
  obtain ⟨h1, h2, h3⟩ := area_ok hg
  unfold impl_regionsOf
  rw [sizeOf_eq, d0, decide_eq_true (by omega : (b.2.2.2.1.length : Int) ≤ 137438953472), decide_eq_true rfl, openHexes_eq hg hk hkk, toNatC, seenV_nil]
  exact iReg_l2 hg hk hkk _
end
end
end Go.Lg
/- Regions of a board: the laws. -/
set_option linter.unusedSimpArgs false
set_option linter.unusedVariables false
namespace Go.Lg
open Go Go.Ev
section
variable {R α σ ι : Type}
/-- A list of lists that is small. -/
def smallRg (v : List (List Int)) : Prop := v.length ≤ 100 ∧ ∀ r ∈ v, r.length ≤ 100
section
variable {b : BrdT} (hg : goodB b = true) {kind : Int} (hk : 0 ≤ kind ∧ kind < (b.1.2.1.length : Int))
include hg hk
theorem regs_inv {k : Nat} (hkk : 200 < k) : RInv (adjB b) (opB b kind) b.2.2.2.1.length k (openV b kind b.2.2.2.1.length).length (openV b kind b.2.2.2.1.length) (regsV b kind k (openV b kind b.2.2.2.1.length).length) := by
  have := regsV_inv hg hk hkk _ (Nat.le_refl _)
  rwa [List.take_length] at this
theorem regs_sml {k : Nat} (hkk : 200 < k) : smallRg (regs b kind k) := by
  obtain ⟨h1, h2, h3⟩ := area_ok hg
  have h := regs_inv hg hk hkk
  have hlo := openV_len b kind b.2.2.2.1.length
  refine ⟨by have h4 : (regs b kind k).length ≤ _ := h.le1; omega, fun r hr => ?_⟩
  obtain ⟨j, hj, _, rfl⟩ := h.row r hr
  have hlc := okQ_len (comp_inv (op := opB b kind) (k := k) (adjB_in hg) hj (by omega)).ok
  rw [sortI_len]; omega
end
/-! ### two places in one region -/
theorem loop_findL (L : Nat → Nat → Option R) (x : List α) (p : α → Bool) (A : Option R) (B : α → Option R)
    (hs : ∀ m i (h : i < x.length), L (m + 1) i = bif p x[i] then B x[i] else L m (i + 1)) (he : ∀ m, L (m + 1) x.length = A) : ∀ m i, i ≤ x.length → x.length - i < m → L m i = match (x.drop i).find? p with | some y => B y | none => A := by
  intro m
  induction m with
  | zero => intro i h1 h2; omega
  | succ m ih =>
    intro i h1 h2
    rcases Nat.lt_or_ge i x.length with h | h
    · rw [hs m i h, List.drop_eq_getElem_cons h, List.find?_cons]
      cases hp : p x[i]
      · exact ih (i + 1) (by omega) (by omega)
      · rfl
    · have : i = x.length := by omega
      subst this
      rw [he, List.drop_length]; rfl
theorem Same_same {b : BrdT} (hs : smallB b) (kind i j : Int) : ∃ (v c : Bool), (∀ {R : Type} (K : Bool → Bool → Option R), spec_SameRegion 4194304 b kind i j K = K v c) ∧ ∀ {R : Type} (K : Bool → Bool → Option R), impl_SameRegion 4194304 b kind i j K = K v c := by
  cases hi : bAtB b kind i
  · refine ⟨false, false, fun K => by unfold spec_SameRegion; rw [bAt_eq hs, hi]; rfl, fun K => ?_⟩
    unfold impl_SameRegion
    rw [isKindOf_eq hs]
    cases hp : kindB b kind
    · rfl
    · obtain ⟨hg, hk⟩ := kindB_iff hp
      obtain ⟨h1, h2, h3⟩ := area_ok hg
      have : inB i 0 (area b - 1) = false := by
        have e : bAtB b kind i = (kindB b kind && inB i 0 (area b - 1)) := by unfold bAtB kindB; rw [Bool.and_assoc]
        rw [e, hp] at hi; exact hi
      rw [Bool.not_true, cond_false, sizeOf_eq, isIndex_eq _ _ (by omega), h1, this]; rfl
  · have e : ∀ j, bAtB b kind j = (kindB b kind && inB j 0 (area b - 1)) := fun j => by unfold bAtB kindB; rw [Bool.and_assoc]
    have hi' := hi
    rw [e i, Bool.and_eq_true] at hi'
    obtain ⟨hp, hii⟩ := hi'
    obtain ⟨hg, hk⟩ := kindB_iff hp
    obtain ⟨h1, h2, h3⟩ := area_ok hg
    cases hj : bAtB b kind j
    · have hjj : inB j 0 (area b - 1) = false := by rw [e, hp] at hj; exact hj
      refine ⟨false, false, fun K => by unfold spec_SameRegion; rw [bAt_eq hs, hi, Bool.not_true, cond_false, bAt_eq hs, hj]; rfl, fun K => ?_⟩
      unfold impl_SameRegion
      rw [isKindOf_eq hs, hp, Bool.not_true, cond_false, sizeOf_eq, isIndex_eq _ _ (by omega), h1, hii, Bool.not_true, cond_false, sizeOf_eq, isIndex_eq _ _ (by omega), h1, hjj]; rfl
    · have hjj : inB j 0 (area b - 1) = true := by rw [e, hp] at hj; exact hj
      have hin : 0 ≤ i ∧ i < area b := by rw [inB_iff] at hii; omega
      refine ⟨decide (0 < costAt b kind i ∧ j ∈ comp (adjB b) (opB b kind) 4194304 i), true, fun K => ?_, fun K => ?_⟩
      · unfold spec_SameRegion
        rw [bAt_eq hs, hi, Bool.not_true, cond_false, bAt_eq hs, hj, Bool.not_true, cond_false, bCost_eq hg hin hk]
        by_cases hc : 0 < costAt b kind i
        · have hlc := okQ_len (comp_inv (op := opB b kind) (k := 4194304) (adjB_in hg) (i := i) (by omega) (by omega)).ok
          rw [decide_eq_true hc, cond_true, bRegion_eq hg hk (by omega) hin, l1Has_eq _ _ (by rw [sortI_len]; omega) (by rw [sortI_len]; omega), has_dec]
          congr 1
          rw [decide_eq_decide, sortI_mem]
          exact ⟨fun h => ⟨hc, h⟩, fun h => h.2⟩
        · rw [decide_eq_false hc, decide_eq_false (fun h => hc h.1)]; rfl
      · unfold impl_SameRegion
        rw [isKindOf_eq hs, hp, Bool.not_true, cond_false, sizeOf_eq, isIndex_eq _ _ (by omega), h1, hii, Bool.not_true, cond_false, sizeOf_eq, isIndex_eq _ _ (by omega), h1, hjj, Bool.not_true, cond_false, regionsOf_eq hg hk (by omega)]
        have hsm := regs_sml hg hk (k := 4194304) (by omega)
        have hI := regs_inv hg hk (k := 4194304) (by omega)
        have hmem : ∀ r ∈ regs b kind 4194304, ∃ q, (0 ≤ q ∧ q < (b.2.2.2.1.length : Int)) ∧ opB b kind q = true ∧ r = sortI (comp (adjB b) (opB b kind) 4194304 q) := hI.row
        have hall : ∀ y ∈ openV b kind b.2.2.2.1.length, ∃ r ∈ regs b kind 4194304, y ∈ r := hI.all
        generalize regs b kind 4194304 = v at *
        have := loop_findL (fun m n => impl_SameRegion_l0 4194304 (K false true) (fun x2 x3 => K x2 x3) m i j (v.length : Int) (n : Int) v) v (fun r => decide (i ∈ r)) (K false true) (fun r => K (decide (j ∈ r)) true) ?_ ?_ 4194304 0 (Nat.zero_le _) (by have := hsm.1; omega)
        · refine Eq.trans this ?_
          rw [List.drop_zero]
          cases hf : v.find? (fun r => decide (i ∈ r)) with
          | none =>
            have hno := List.find?_eq_none.1 hf
            have : ¬ (0 < costAt b kind i) := by
              intro hc
              have : i ∈ openV b kind b.2.2.2.1.length := by
                unfold openV
                refine List.mem_map.2 ⟨i.toNat, List.mem_filter.2 ⟨List.mem_range.2 (by omega), ?_⟩, by omega⟩
                rw [show ((i.toNat : Nat) : Int) = i by omega]; simpa using hc
              obtain ⟨r, hr, hir⟩ := hall i this
              exact hno r hr (by simpa using hir)
            rw [decide_eq_false (fun h => this h.1)]
          | some r =>
            have h4 : i ∈ r := by simpa using List.find?_some hf
            obtain ⟨q, hq, hqo, rfl⟩ := hmem r (List.mem_of_find?_eq_some hf)
            rw [sortI_mem, comp_mem (adjB_in hg) hq (by omega)] at h4
            have hio := h4.op_of hqo
            have hback := h4.symm (adjB_sym hg) hqo
            show K _ true = K _ true
            congr 1
            rw [decide_eq_decide, sortI_mem, comp_mem (adjB_in hg) hq (by omega), comp_mem (adjB_in hg) (by omega) (by omega)]
            exact ⟨fun h => ⟨(opB_iff.1 hio).2, hback.trans h⟩, fun h => h4.trans h.2⟩
        · intro m n hn
          have h5 := hsm.2 _ (List.getElem_mem hn)
          have h6 := hsm.1
          show impl_SameRegion_l0 4194304 _ _ (m + 1) i j _ (n : Int) v = bif _ then _ else impl_SameRegion_l0 4194304 _ _ m i j _ ((n + 1 : Nat) : Int) v
          rw [impl_SameRegion_l0, dlt, d0, decide_eq_true hn, toNatC, getD_lt hn, Contains_eq _ _ (by omega) (by omega), Contains_eq _ _ (by omega) (by omega), has_dec, has_dec, wsucc (by omega)]
          rfl
        · intro m
          show impl_SameRegion_l0 4194304 _ _ (m + 1) i j (v.length : Int) (v.length : Int) v = _
          rw [impl_SameRegion_l0, dlt, decide_eq_false (by omega)]; rfl
theorem law_FnExactSameRegion (b : BrdT) (w : Wf BrdTy b) (kind : Int) (w2 : Wf (.int .i64) kind) (i : Int) (w3 : Wf (.int .i64) i) (j : Int) (w4 : Wf (.int .i64) j) (K : Bool → Option R) : laws_FnExactSameRegion 4194304 b kind i j K = K true := by
  unfold laws_FnExactSameRegion
  obtain ⟨r, e0, h⟩ := szBoard_ret w
  rw [e0]
  rcases h with rfl | ⟨hl, hs⟩
  · rfl
  · obtain ⟨v, c, e1, e2⟩ := Same_same hs kind i j
    rw [decide_eq_false (by have := hl.1; omega), cond_false, toBrd_eq hs, e1, toBrd_eq hs, e2, toBrd_eq hs, eqBrd_self hs]
    simp
end
end Go.Lg
