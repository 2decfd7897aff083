/- The evaluator's soundness, part 11: stores, new variables. -/
import Derived.Test.YtncllndlbeghjaaDoorEv1
set_option linter.unusedVariables false
set_option linter.unusedSimpArgs false
set_option linter.unusedSectionVars false
set_option linter.unusedSectionVars false
namespace Go.Ev
open Go Go.RowKit
section
variable {en : Ent} {D : Nat → Value} {B : Nat → List Nat} {S : St} {a : Act} {w : World} {o : Oper}

/-- A block of this state, written in place. -/
theorem Fits.rewrite (h : Fits en D B S a w) {id : Nat} {b b' : Blk} (hb : (S.hp id).blk = some b) (hal : b.alike b') (hdp : ∀ T xs sv ys, b = .deep T xs sv → b' = .deep T ys sv → False) {k : Nat} (hkh : (B id).head? = some k) (cells' : Array Value)
    (hrep : (∀ q, (memOf en D B S w).A q → (memOf en D B (S.set id ⟨(S.hp id).ver, some b'⟩) (w.setRow k cells')).A q) → (∀ q, (memOf en D B S w).A q → (w.setRow k cells').heap[q]? = w.heap[q]?) →
      (∀ i, SlotLe (memOf en D B S w) (memOf en D B (S.set id ⟨(S.hp id).ver, some b'⟩) (w.setRow k cells')) i) → BlkRep (memOf en D B (S.set id ⟨(S.hp id).ver, some b'⟩) (w.setRow k cells')) id b') : Fits en D B (S.set id ⟨(S.hp id).ver, some b'⟩) a (w.setRow k cells') := by
  have hsome : (S.hp id).blk.isSome = true := by rw [hb]; rfl
  have hk : k ∈ B id := by
    cases hl : B id with
    | nil => rw [hl] at hkh; cases hkh
    | cons q l => rw [hl] at hkh; injection hkh with hkh; subst hkh; simp
  have hlt := h.lt id k hsome hk
  have hhp : ∀ i, ((S.set id ⟨(S.hp id).ver, some b'⟩).hp i).blk.isSome = (S.hp i).blk.isSome := by
    intro i
    rw [set_hp]
    by_cases e : i = id
    · subst e; rw [if_pos rfl, hsome]; rfl
    · rw [if_neg e]
  have htop : ∀ q, tops (S.set id ⟨(S.hp id).ver, some b'⟩) B q ↔ tops S B q := by
    intro q
    constructor
    · rintro ⟨i, h1, h2⟩; rw [hhp] at h1; exact ⟨i, h1, h2⟩
    · rintro ⟨i, h1, h2⟩; rw [← hhp] at h1; exact ⟨i, h1, h2⟩
  have hA : ∀ q, (memOf en D B S w).A q → (memOf en D B (S.set id ⟨(S.hp id).ver, some b'⟩) (w.setRow k cells')).A q := by
    intro q hq
    refine ⟨?_, fun ht => hq.2 ((htop q).1 ht)⟩
    have := hq.1
    simpa using this
  have hw : ∀ q, (memOf en D B S w).A q → (w.setRow k cells').heap[q]? = w.heap[q]? := by
    intro q hq
    refine setRow_other w k q cells' (fun e => hq.2 ⟨id, hsome, by rw [e]; exact hk⟩)
  have hs : ∀ i, SlotLe (memOf en D B S w) (memOf en D B (S.set id ⟨(S.hp id).ver, some b'⟩) (w.setRow k cells')) i := by
    intro i
    right
    by_cases e : i = id
    · subst e
      refine ⟨by show ((S.set i _).hp i).ver = _; rw [set_hp, if_pos rfl]; rfl, fun b2 hb2 => ?_⟩
      have hb2' : ((S.set i ⟨(S.hp i).ver, some b'⟩).hp i).blk = some b2 := hb2
      rw [set_hp, if_pos rfl] at hb2'
      injection hb2' with hb2'; subst hb2'
      exact ⟨b, hb, hal, rfl, ⟨rfl, fun _ => rfl⟩, fun T xs sv ys e1 e2 => (hdp T xs sv ys e1 e2).elim⟩
    · refine ⟨by show ((S.set id _).hp i).ver = _; rw [set_hp, if_neg e]; rfl, fun b2 hb2 => ?_⟩
      have hb2' : ((S.set id ⟨(S.hp id).ver, some b'⟩).hp i).blk = some b2 := hb2
      rw [set_hp, if_neg e] at hb2'
      refine ⟨b2, hb2', Blk.alike_refl b2, rfl, ⟨rfl, fun _ => rfl⟩, fun _ _ _ _ _ _ => Mem.cells_same rfl (fun q hq => ?_)⟩
      exact setRow_other w k q cells' (fun e' => e (h.inj i id k (by rw [hb2']; rfl) hsome (by rw [← e']; exact hq) hk))
  refine h.step rfl ⟨rfl, rfl, rfl, by simp, fun q hq hm => setRow_other w k q cells' (fun e => by
      subst e
      rcases hlt.1 with h1 | h1
      · exact hm h1
      · omega)⟩ ?_ ?_ (fun i hi => h.nd i (by rw [← hhp]; exact hi)) hA hw hs ?_
  · intro i q h1 h2
    rw [hhp] at h1
    have := h.lt i q h1 h2
    simpa using this
  · intro i j q h1 h2 h3 h4
    rw [hhp] at h1 h2
    exact h.inj i j q h1 h2 h3 h4
  · intro i b2 hb2
    by_cases e : i = id
    · subst e
      rw [set_hp, if_pos rfl] at hb2
      injection hb2 with hb2; subst hb2
      exact hrep hA hw hs
    · rw [set_hp, if_neg e] at hb2
      refine BlkRep_mono hA hw hs (fun q hq => ?_) rfl rfl (h.blk i b2 hb2)
      refine setRow_other w k q cells' (fun e' => e (h.inj i id k (by rw [hb2]; rfl) hsome (by rw [← e']; exact hq) hk))
theorem run_storeVar {P : Program} {T : Ty} {t : Nat} (hT : TyF P T t) {k o1 : Nat} {e : TypeId} {cells : Array Value} (hg : w.heap[k]? = some (.cells cells e (0, 0))) {v : Value} (hl : v.cells.toList.length = T.size) (h1 : ∀ u ∈ v.cells.toList, u.oneCell' = true)
    (hfit : o1 + T.size ≤ cells.size) : (storeVar t ⟨k, o1, none⟩ v).run P w = .ok () (w.setRow k (splice cells.toList o1 v.cells.toList).toArray) := by
  have hsz := hT.sizeOf w
  have hst := run_storeCells_at P k o1 e v.cells.toList 0 cells w hg (by rw [hl]; omega) h1
  simp only [Nat.add_zero] at hst
  unfold storeVar
  have hl' : v.cells.size = T.size := by rw [← hl, Array.length_toList]
  simp only [Sem.run_bind, hsz, Result.andThen_ok]
  rw [if_neg (by rw [hl']; exact fun hh => hh rfl), hst]
  rfl
theorem setBlk_box_agg {U : Ty} {path : List Step} {T : Ty} (ht : (U.at_ path).map (·.2) = some T) (hU : U.isAgg = false) : path = [] := by
  cases path with
  | nil => rfl
  | cons s p => cases U <;> simp [Ty.isAgg] at hU <;> cases s <;> simp [Ty.at_] at ht
theorem getF_fld : ∀ {T : Ty} {j o : Nat} {U : Ty} {x : T.den}, T.fld j = some (o, U) → ∃ u, getF T j x = some ⟨U, u⟩
  | .pair a b, 0, o, U, x, h => by injection h with h; injection h with _ h; subst h; exact ⟨x.1, rfl⟩
  | .pair a b, j + 1, o, U, x, h => by
    simp only [Ty.fld, Option.map_eq_some_iff] at h
    obtain ⟨⟨o', V⟩, h1, h2⟩ := h
    injection h2 with _ h2; subst h2
    exact getF_fld (T := b) h1
  | .int _, 0, _, _, x, h => by injection h with h; injection h with _ h; subst h; exact ⟨x, rfl⟩
  | .bool, 0, _, _, x, h => by injection h with h; injection h with _ h; subst h; exact ⟨x, rfl⟩
  | .str, 0, _, _, x, h => by injection h with h; injection h with _ h; subst h; exact ⟨x, rfl⟩
  | .st _, 0, _, _, x, h => by injection h with h; injection h with _ h; subst h; exact ⟨x, rfl⟩
  | .arr _ _, 0, _, _, x, h => by injection h with h; injection h with _ h; subst h; exact ⟨x, rfl⟩
  | .sl _, 0, _, _, x, h => by injection h with h; injection h with _ h; subst h; exact ⟨x, rfl⟩
  | .int _, _ + 1, _, _, _, h => by cases h
  | .bool, _ + 1, _, _, _, h => by cases h
  | .str, _ + 1, _, _, _, h => by cases h
  | .st _, _ + 1, _, _, _, h => by cases h
  | .arr _ _, _ + 1, _, _, _, h => by cases h
  | .sl _, _ + 1, _, _, _, h => by cases h
theorem getV_at : ∀ {p : List Step} {T : Ty} {o : Nat} {U : Ty} {x : T.den}, T.at_ p = some (o, U) → ∃ u, getV T x p = some ⟨U, u⟩
  | [], T, o, U, x, h => by
    have h' : some (0, T) = some (o, U) := by cases T <;> exact h
    injection h' with h'; injection h' with _ h'; subst h'
    exact ⟨x, by cases T <;> rfl⟩
  | .fld j :: p, .st a, o, U, x, h => by
    simp only [Ty.at_] at h
    cases hq : a.fld j with
    | none => rw [hq] at h; cases h
    | some q =>
      obtain ⟨o1, V⟩ := q
      rw [hq] at h
      simp only [Option.map_eq_some_iff] at h
      obtain ⟨⟨o2, W⟩, h1, h2⟩ := h
      injection h2 with _ h2; subst h2
      obtain ⟨u, hu⟩ := getF_fld (T := a) (x := x) hq
      obtain ⟨u', hu'⟩ := getV_at (x := u) h1
      exact ⟨u', by simp only [getV, hu]; exact hu'⟩
  | .elt i :: p, .arr n a, o, U, xs, h => by
    simp only [Ty.at_, Option.map_eq_some_iff] at h
    obtain ⟨⟨o2, W⟩, h1, h2⟩ := h
    injection h2 with _ h2; subst h2
    exact getV_at (T := a) (x := List.getD xs i a.zero) h1
  | .fld _ :: _, .int _, _, _, _, h => by cases h
  | .fld _ :: _, .bool, _, _, _, h => by cases h
  | .fld _ :: _, .str, _, _, _, h => by cases h
  | .fld _ :: _, .pair _ _, _, _, _, h => by cases h
  | .fld _ :: _, .arr _ _, _, _, _, h => by cases h
  | .fld _ :: _, .sl _, _, _, _, h => by cases h
  | .elt _ :: _, .int _, _, _, _, h => by cases h
  | .elt _ :: _, .bool, _, _, _, h => by cases h
  | .elt _ :: _, .str, _, _, _, h => by cases h
  | .elt _ :: _, .pair _ _, _, _, _, h => by cases h
  | .elt _ :: _, .st _, _, _, _, h => by cases h
  | .elt _ :: _, .sl _, _, _, _, h => by cases h
/-- A store into a row of rows. -/
theorem storeD_good {t : Nat} {T : Ty} (hT : en.cx.C t = some T) (h : Fits en D B S a w) {id ver : Nat} {path : List Step} {p x : Operand} (ep : AVRep (memOf en D B S w) (.ptr id ver path) (a.eval p)) (ex : AVRep (memOf en D B S w) (S.eval en.cx x) (a.eval x)) {S' : St} {b : Bool}
    (hd : dStoreD S o.dst T id ver path (S.eval en.cx x) = some (b, S')) (hT' : TyF en.P T t) (ho : o.op = .store t p x) : Good en o a S' ((execOp a.eval o).run en.P w) := by
  unfold dStoreD at hd
  split at hd
  · rename_i a0 xs sv i hb0
    split at hd
    · rename_i e0
      subst e0
      split at hd
      · rename_i y hy
        cases hc : (Nat.blt id 3000000 && (S.plainOwn (S.eval en.cx x) && (distinct (S.eval en.cx x).ids && (S.eval en.cx x).ids.all fun j => !Nat.beq j id))) with
        | false => rw [hc] at hd; cases hd
        | true =>
          rw [hc] at hd
          injection hd with hd; injection hd with h1 h2; subst h2
          simp only [Bool.and_eq_true] at hc
          obtain ⟨c1, c2, c3, c4⟩ := hc
          have hlt3 : id < 3000000 := by rwa [Nat.blt_eq] at c1
          obtain ⟨k, o1, k1, k2, k3, k4⟩ := ptr_good ep hb0
          obtain ⟨hv, hbk⟩ := blk?_some hb0
          subst hv
          obtain ⟨g1, g2, g3, g4⟩ := own_all h hT'.isPair ex c2 hy
          have hval := OwnD_rep g1
          have hlen := OwnD_len g1
          have hone := Rep_one hval
          have hblk := h.blk id _ hbk
          have hblk' : OwnD w (.sl a0) xs [D id] (B id) := hblk
          obtain ⟨ad, c, d1, d2, d3⟩ := hblk'
          injection d1 with d1
          have hD : OwnD w (.sl a0) xs [.slice ad (List.length (α := a0.den) xs) c] (B id) := by rw [← d1]; exact hblk
          have k2 : (a0.at_ []).map (fun q => i * a0.size + q.1) = some o1 := k2
          have k3 : i < xs.length ∧ a0.inR [] := k3
          have he0 : a0.at_ [] = some (0, a0) := by cases a0 <;> rfl
          rw [he0] at k2
          simp only [Option.map_some, Nat.add_zero] at k2
          injection k2 with k2
          subst k2
          obtain ⟨cells, e, b0, bm, b1, f1, f2, f3, f4, f5, f6, f7, f8⟩ := OwnD_elt hD k1 k3.1
          have hsome : (S.hp id).blk.isSome = true := by rw [hbk]; rfl
          have hnd := h.nd id hsome
          have hkm : k ∈ B id := by rw [f1]; simp
          have hnid : id ∉ (S.eval en.cx x).ids := by
            intro hm
            have := List.all_eq_true.1 c4 id hm
            rw [Nat.beq_refl] at this; cases this
          have hdis : ∀ q, q ∈ (S.eval en.cx x).ids.flatMap B → q ∉ B id := by
            intro q hq hqi
            obtain ⟨j, hj, hq⟩ := List.mem_flatMap.1 hq
            have := h.inj j id q (g4 j hj) hsome hq hqi
            subst this
            exact hnid hj
          have hnd' := hnd
          rw [f1, List.nodup_cons] at hnd'
          have hne : ∀ q, q ∈ b0 ∨ q ∈ b1 ∨ q ∈ (S.eval en.cx x).ids.flatMap B → q ≠ k := by
            intro q hq e'
            subst e'
            rcases hq with hq | hq | hq
            · exact hnd'.1 (by simp [hq])
            · exact hnd'.1 (by simp [hq])
            · exact hdis q hq hkm
          have hil : i < c := by have := k3.1; have : xs.length ≤ c := d2; omega
          have hmul : i * a0.size + a0.size ≤ cells.size := by
            have h8 : (i + 1) * a0.size ≤ c * a0.size := Nat.mul_le_mul_right _ hil
            rw [Nat.add_mul] at h8
            omega
          have hrun := run_storeVar (P := en.P) hT' (w := w) f5 hlen hone (o1 := i * a0.size) (by omega)
          have hcl : cells.toList.length = c * a0.size := by rw [Array.length_toList]; exact f6
          have hcs : (splice cells.toList (i * a0.size) (a.eval x).cells.toList).toArray.size = cells.size := by
            simp only [List.size_toArray]
            rw [splice_length (by rw [hlen, Array.length_toList]; omega), Array.length_toList]
          have hnd2 : (k :: (b0 ++ (S.eval en.cx x).ids.flatMap B ++ b1)).Nodup := by
            have hn2 := blocks_nodup h (distinct_nodup c3) g4
            rw [List.nodup_cons]
            refine ⟨fun hm => ?_, ?_⟩
            · simp only [List.mem_append] at hm
              rcases hm with (hm | hm) | hm
              · exact hne k (.inl hm) rfl
              · exact hne k (.inr (.inr hm)) rfl
              · exact hne k (.inr (.inl hm)) rfl
            · have h0 := hnd'.2
              simp only [List.nodup_append, List.mem_append] at h0 ⊢
              refine ⟨⟨h0.1.1, hn2, fun x hx y hy e' => ?_⟩, h0.2.1, fun x hx y hy e' => ?_⟩
              · subst e'
                exact hdis x hy (by rw [f1]; simp [hx])
              · subst e'
                rcases hx with hx | hx
                · exact h0.2.2 x (.inl hx) x hy rfl
                · exact hdis x hx (by rw [f1]; simp [hy])
          have hl := h.lt id k hsome hkm
          have hF : Fits en (upd D id (D id)) (upd B id (k :: (b0 ++ (S.eval en.cx x).ids.flatMap B ++ b1))) ((S.gone (S.eval en.cx x).ids).set id ⟨(S.hp id).ver, some (.deep a0 (xs.set i y) (sv + 1))⟩) a (w.setRow k (splice cells.toList (i * a0.size) (a.eval x).cells.toList).toArray) := by
            refine h.absorbG id (S.eval en.cx x).ids (S.hp id).ver (.deep a0 (xs.set i y) (sv + 1)) (D id) _ ?_ hnd2 ?_ ?_ ?_ (fun hA hw hs => ?_)
            · exact ⟨rfl, rfl, rfl, by simp, fun q hq hm => setRow_other w k q _ (fun e => by
                subst e
                rcases hl.1 with h1 | h1
                · exact hm h1
                · omega)⟩
            · intro q hq
              have hq' : q ∈ B id ∨ q ∈ (S.eval en.cx x).ids.flatMap B := by
                rw [f1]
                simp only [List.mem_cons, List.mem_append] at hq ⊢
                rcases hq with hq | (hq | hq) | hq <;> simp [hq]
              rcases hq' with hq' | hq'
              · have := h.lt id q hsome hq'
                exact ⟨this.1, by simpa using this.2, .inr ⟨id, .inl rfl, hsome, hq'⟩⟩
              · obtain ⟨j, hj, hq'⟩ := List.mem_flatMap.1 hq'
                have := h.lt j q (g4 j hj) hq'
                exact ⟨this.1, by simpa using this.2, .inr ⟨j, .inr hj, g4 j hj, hq'⟩⟩
            · intro q hq hn
              exact setRow_other w k q _ (fun e => hn ⟨hsome, by rw [e]; exact hkm⟩)
            · intro _
              refine .inr ⟨?_, fun b' hb' => ⟨.deep a0 xs sv, hbk, ?_, upd_at _ _ _, ⟨?_, fun h3 => by omega⟩, fun T0 x0 s0 y0 e1 e2 => ?_⟩⟩
              · show (((S.gone (S.eval en.cx x).ids).set id _).hp id).ver = _
                rw [set_hp, if_pos rfl]; rfl
              · have hb' : (((S.gone (S.eval en.cx x).ids).set id ⟨(S.hp id).ver, some (.deep a0 (xs.set i y) (sv + 1))⟩).hp id).blk = some b' := hb'
                rw [set_hp, if_pos rfl] at hb'
                injection hb' with hb'
                subst hb'
                exact ⟨rfl, by simp, by omega⟩
              · show (upd B id _ id).head? = (B id).head?
                rw [upd_at, f1]; rfl
              · have hb' : (((S.gone (S.eval en.cx x).ids).set id ⟨(S.hp id).ver, some (.deep a0 (xs.set i y) (sv + 1))⟩).hp id).blk = some b' := hb'
                rw [set_hp, if_pos rfl] at hb'
                injection hb' with hb'
                rw [← hb'] at e2
                injection e1 with _ _ e1
                injection e2 with _ _ e2
                omega
            · show OwnD _ (.sl a0) (xs.set i y) [upd D id (D id) id] (upd B id _ id)
              rw [upd_at, upd_at, d1]
              refine f8 _ y _ _ (fun q hq => setRow_other w k q _ (hne q (by rcases hq with hq | hq <;> simp [hq]))) (setRow_heap w k cells _ e _ f5) hcs (fun j hj hjl => ?_) ?_
              · have hjc : j < c := by have : xs.length ≤ c := d2; omega
                exact seg_splice_ne hcl hil hjc hlen hj
              · rw [show (splice cells.toList (i * a0.size) (a.eval x).cells.toList).toArray.toList = splice cells.toList (i * a0.size) (a.eval x).cells.toList from rfl, seg_splice_same hcl hil hlen]
                exact OwnD_mono g1 (fun q hq => setRow_other w k q _ (hne q (.inr (.inr hq))))
          refine ⟨w.setRow k (splice cells.toList (i * a0.size) (a.eval x).cells.toList).toArray, .inr ⟨?_, _, _, hF.put o.dst trivial⟩⟩
          simp only [execOp, ho, k4, Instr.storeAt, Instr.sureAddr, Sem.run_bind, Sem.run_pure, Result.andThen_ok]
          rw [hrun]; rfl
      · cases hd
    · cases hd
  · cases hd
theorem store_good (hC : Types en.P en.cx.C) (h : Fits en D B S a w) {t : Nat} {p x : Operand} {S' : St} {b : Bool} (hd : dStore en.cx S o.dst t p x = some (b, S')) (ho : o.op = .store t p x) : Good en o a S' ((execOp a.eval o).run en.P w) := by
  have ep := h.eval p
  have ex := h.eval x
  unfold dStore at hd
  split at hd
  · rename_i T id ver path hT hp
    cases hdeep : (T.hasSl && isDeep S id ver) with
    | true =>
      rw [hdeep] at hd
      simp only [cond_true] at hd
      rw [hp] at ep
      exact storeD_good hT h ep ex hd (hC.ok _ _ hT) ho
    | false =>
    rw [hdeep] at hd
    simp only [cond_false] at hd
    split at hd
    · rename_i b0 hb0
      split at hd
      · rename_i hty
        split at hd
        · rename_i b1 hb1
          injection hd with hd; injection hd with h1 h2; subst h2
          rw [hp] at ep
          obtain ⟨k, o1, k1, k2, k3, k4⟩ := ptr_good ep hb0
          obtain ⟨hv, hbk⟩ := blk?_some hb0
          have hT' := hC.ok _ _ hT
          subst hv
          have hblk := h.blk id b0 hbk
          cases b0 with
          | box U v0 =>
            simp only [St.setBlk] at hb1
            split at hb1
            · rename_i lu hlu
              simp only [Option.map_eq_some_iff] at hb1
              obtain ⟨v1, hv1, e1⟩ := hb1
              subst e1
              have hu := BoxRep_of hT'.isPair ex hlu
              obtain ⟨k', cells, e, g1, g2, g3, g4⟩ := hblk
              have g1' : B id = [k'] := g1
              rw [g1'] at k1; injection k1 with k1; subst k1
              simp only [Blk.place, Blk.tyAt, Option.map_eq_some_iff] at k2 hty
              obtain ⟨⟨q1, U1⟩, j1, j2⟩ := k2
              obtain ⟨⟨q2, U2⟩, j3, j4⟩ := hty
              rw [j1] at j3; injection j3 with j3; injection j3 with j3 j5
              subst j3; subst j5; simp only at j2 j4; subst j2; subst j4
              have hlen := BoxRep_length hu
              have hsz := at_size j1 k3
              have g2' : w.heap[k']? = some (.cells cells e (0, 0)) := g2
              have hone : ∀ u ∈ (a.eval x).cells.toList, u.oneCell' = true := (BoxRep_cells hu).choose_spec.2.2
              have hrun := run_storeVar (P := en.P) hT' (w := w) g2' hlen hone (o1 := q1) (by omega)
              have hagg : U.isAgg = true ∨ path = [] := by
                cases hU : U.isAgg with
                | true => exact .inl rfl
                | false => exact .inr (setBlk_box_agg (by rw [j1]; rfl) hU)
              have hnew := setBox_rep g4 hv1 k3 j1 hu hagg
              have hF : Fits en D B (S.set id ⟨(S.hp id).ver, some (.box U v1)⟩) a (w.setRow k' (splice cells.toList q1 (a.eval x).cells.toList).toArray) := by
                refine h.rewrite hbk (b' := .box U v1) rfl (fun _ _ _ _ e1 _ => by cases e1) (by rw [g1']; rfl) _ (fun hA hw hs => ?_)
                refine ⟨k', _, e, g1', setRow_heap w k' cells _ e _ g2', ?_, ?_⟩
                · simp only [List.size_toArray]
                  rw [splice_length (by rw [hlen, Array.length_toList, g3]; exact hsz), Array.length_toList, g3]
                · have := BoxRep_mono hA hw hs hnew
                  simpa using this
              refine ⟨w.setRow k' (splice cells.toList q1 (a.eval x).cells.toList).toArray, .inr ⟨?_, D, B, ?_⟩⟩
              · simp only [execOp, ho, k4, Instr.storeAt, Instr.sureAddr, Sem.run_bind, Sem.run_pure, Result.andThen_ok]
                rw [hrun]; rfl
              · exact hF.put o.dst trivial
            · cases hb1
          | row a0 xs =>
            cases path with
            | nil => simp [St.setBlk] at hb1
            | cons s path' =>
              cases s with
              | fld j => simp [St.setBlk] at hb1
              | elt i =>
                simp only [St.setBlk] at hb1
                split at hb1
                · rename_i y hy
                  split at hb1
                  · rename_i z hz
                    cases hflat : (a0.hasSl && !(S.eval en.cx x).ids.isEmpty) with
                    | true => rw [hflat] at hb1; cases hb1
                    | false =>
                      rw [hflat] at hb1
                      injection hb1 with hb1
                      subst hb1
                      have hval := ValRep_cells hT'.isPair (toVal_rep (m := memOf en D B S w) h.blk rfl hT'.isPair ex hy)
                      have hlen := Rep_len hval
                      have hone := Rep_one hval
                      obtain ⟨ad, c, g1, g2, g3⟩ := hblk
                      rcases g3 with ⟨g3, _⟩ | ⟨k', cells, e, g3, g4, g5, g6, g7⟩
                      · have : B id = [] := g3
                        rw [this] at k1; cases k1
                      · have g3' : B id = [k'] := g3
                        rw [g3'] at k1; injection k1 with k1; subst k1
                        simp only [Blk.place, Blk.tyAt, Blk.inR, Option.map_eq_some_iff] at k2 hty k3
                        obtain ⟨⟨q1, U1⟩, j1, j2⟩ := k2
                        obtain ⟨⟨q2, U2⟩, j3, j4⟩ := hty
                        rw [j1] at j3; injection j3 with j3; injection j3 with j3 j5
                        subst j3; subst j5; simp only at j2 j4; subst j2; subst j4
                        have hsz := at_size j1 k3.2
                        have hil : i < c := by have := k3.1; omega
                        have hmul : i * a0.size + a0.size ≤ cells.size := by
                          have h8 : (i + 1) * a0.size ≤ c * a0.size := Nat.mul_le_mul_right _ hil
                          rw [Nat.add_mul] at h8
                          omega
                        have g5' : w.heap[k']? = some (.cells cells e (0, 0)) := g5
                        have hrun := run_storeVar (P := en.P) hT' (w := w) g5' hlen hone (o1 := i * a0.size + q1) (by omega)
                        have hcl : cells.toList.length = c * a0.size := by rw [Array.length_toList]; exact g6
                        have hx := g7 i _ (part_of_list xs i a0.zero k3.1)
                        have hx' := Rep_sub (A' := AX (memOf en D B S w) (St.eval en.cx S x).ids) (fun k hk => .inl hk) hx
                        have hz' := setV_rep hx' hz k3.2 j1 hval
                        have hsp : splice cells.toList (i * a0.size + q1) (a.eval x).cells.toList = splice cells.toList (i * a0.size) (splice (seg cells.toList i a0.size) q1 (a.eval x).cells.toList) := by
                          rw [seg_part]
                          exact splice_part (n := a0.size) (by rw [hlen]; exact hsz) (by rw [Array.length_toList]; exact hmul)
                        have hzl := Rep_len hz'
                        have hF : Fits en D B (S.set id ⟨(S.hp id).ver, some (.row a0 (xs.set i z))⟩) a (w.setRow k' (splice cells.toList (i * a0.size + q1) (a.eval x).cells.toList).toArray) := by
                          refine h.rewrite hbk (b' := .row a0 (xs.set i z)) ⟨rfl, by simp⟩ (fun _ _ _ _ e1 _ => by cases e1) (by rw [g3']; rfl) _ (fun hA hw hs => ?_)
                          refine ⟨ad, c, ?_, by simpa using g2, .inr ⟨k', _, e, g3', g4, setRow_heap w k' cells _ e _ g5', ?_, ?_⟩⟩
                          · rw [List.length_set]; exact g1
                          · simp only [List.size_toArray]
                            rw [splice_length (by rw [hlen, Array.length_toList]; omega), hcl]
                          · intro j x' hj
                            rw [hsp] at hA hw ⊢
                            rcases nth_set xs i j z x' hj with ⟨rfl, rfl, hlt⟩ | ⟨hne, hj'⟩
                            · rw [show (splice cells.toList (j * a0.size) (splice (seg cells.toList j a0.size) q1 (a.eval x).cells.toList)).toArray.toList = _ from rfl, seg_splice_same hcl hil hzl]
                              cases hs' : a0.hasSl with
                              | false => exact Rep_flat hs' hz'
                              | true =>
                                rw [hs'] at hflat
                                have hnil : (S.eval en.cx x).ids = [] := by
                                  cases hq : (S.eval en.cx x).ids with
                                  | nil => rfl
                                  | cons q qs => rw [hq] at hflat; cases hflat
                                rw [hnil] at hz'
                                exact Rep_mono hA hw (Rep_sub (fun k hk => hk.elim (fun h => h) (fun ⟨_, h1, _⟩ => by cases h1)) hz')
                            · have hjl : j < c := by
                                have : j < xs.length := (List.getElem?_eq_some_iff.1 hj').1
                                omega
                              rw [show (splice cells.toList (i * a0.size) (splice (seg cells.toList i a0.size) q1 (a.eval x).cells.toList)).toArray.toList = _ from rfl, seg_splice_ne hcl hil hjl hzl hne]
                              exact Rep_mono hA hw (g7 j x' hj')
                        refine ⟨w.setRow k' (splice cells.toList (i * a0.size + q1) (a.eval x).cells.toList).toArray, .inr ⟨?_, D, B, ?_⟩⟩
                        · simp only [execOp, ho, k4, Instr.storeAt, Instr.sureAddr, Sem.run_bind, Sem.run_pure, Result.andThen_ok]
                          rw [hrun]; rfl
                        · exact hF.put o.dst trivial
                  · cases hb1
                · cases hb1
          | deep a0 xs sv =>
            cases path with
            | nil => simp [St.setBlk] at hb1
            | cons s path' =>
              cases s with
              | fld j => simp [St.setBlk] at hb1
              | elt i =>
                simp only [St.setBlk] at hb1
                split at hb1
                · rename_i y hy
                  split at hb1
                  · rename_i z hz
                    cases hflat : T.hasSl with
                    | true => rw [hflat] at hb1; cases hb1
                    | false =>
                      rw [hflat] at hb1
                      injection hb1 with hb1
                      subst hb1
                      have hval := ValRep_cells hT'.isPair (toVal_rep (m := memOf en D B S w) h.blk rfl hT'.isPair ex hy)
                      have hlen := Rep_len hval
                      have hone := Rep_one hval
                      have hblk' : OwnD w (.sl a0) xs [D id] (B id) := hblk
                      obtain ⟨ad, c, d1, d2, d3⟩ := hblk'
                      injection d1 with d1
                      have hD : OwnD w (.sl a0) xs [.slice ad (List.length (α := a0.den) xs) c] (B id) := by rw [← d1]; exact hblk
                      simp only [Blk.place, Blk.tyAt, Blk.inR, Option.map_eq_some_iff] at k2 hty k3
                      obtain ⟨⟨q1, U1⟩, j1, j2⟩ := k2
                      obtain ⟨⟨q2, U2⟩, j3, j4⟩ := hty
                      rw [j1] at j3; injection j3 with j3; injection j3 with j3 j5
                      subst j3; subst j5; simp only at j2 j4; subst j2; subst j4
                      obtain ⟨cells, e, b0, bm, b1, f1, f2, f3, f4, f5, f6, f7, f8⟩ := OwnD_elt hD k1 k3.1
                      obtain ⟨u, hu⟩ := getV_at (x := xs.getD i a0.zero) j1
                      obtain ⟨q', c0, cm, c1, j6, f9, f10, f11⟩ := OwnD_path f7 hu k3.2
                      rw [j1] at j6; injection j6 with j6; injection j6 with j6 _
                      simp only at j6 f10 f11
                      subst j6
                      have hcm := OwnD_flat_nil hflat f10
                      subst hcm
                      subst f9
                      have hnd := h.nd id (by rw [hbk]; rfl)
                      rw [f1] at hnd
                      rw [List.nodup_cons] at hnd
                      have hne : ∀ q, q ∈ b0 ∨ q ∈ b1 ∨ q ∈ c0 ∨ q ∈ c1 → q ≠ k := by
                        intro q hq e'
                        subst e'
                        refine hnd.1 ?_
                        rcases hq with hq | hq | hq | hq <;> simp [hq]
                      have hsz := at_size j1 k3.2
                      have hil : i < c := by have := k3.1; have : xs.length ≤ c := d2; omega
                      have hmul : i * a0.size + a0.size ≤ cells.size := by
                        have h8 : (i + 1) * a0.size ≤ c * a0.size := Nat.mul_le_mul_right _ hil
                        rw [Nat.add_mul] at h8
                        omega
                      have hrun := run_storeVar (P := en.P) hT' (w := w) f5 hlen hone (o1 := i * a0.size + q1) (by omega)
                      have hcl : cells.toList.length = c * a0.size := by rw [Array.length_toList]; exact f6
                      have hz' := f11 (w.setRow k (splice cells.toList (i * a0.size + q1) (a.eval x).cells.toList).toArray) y z [] (a.eval x).cells.toList (fun q hq => setRow_other w k q _ (hne q (by rcases hq with hq | hq <;> simp [hq]))) (OwnD_flat hflat hval) hz
                      have hsp : splice cells.toList (i * a0.size + q1) (a.eval x).cells.toList = splice cells.toList (i * a0.size) (splice (seg cells.toList i a0.size) q1 (a.eval x).cells.toList) := by
                        rw [seg_part]
                        exact splice_part (n := a0.size) (by rw [hlen]; exact hsz) (by rw [Array.length_toList]; exact hmul)
                      have hzl := OwnD_len hz'
                      have hF : Fits en D B (S.set id ⟨(S.hp id).ver, some (.deep a0 (xs.set i z) (sv + 1))⟩) a (w.setRow k (splice cells.toList (i * a0.size + q1) (a.eval x).cells.toList).toArray) := by
                        refine h.rewrite hbk (b' := .deep a0 (xs.set i z) (sv + 1)) ⟨rfl, by simp, by omega⟩ (fun T0 x0 s0 y0 e1 e2 => by
                          injection e1 with _ _ e1
                          injection e2 with _ _ e2
                          omega) k1 _ (fun hA hw hs => ?_)
                        show OwnD _ (.sl a0) (xs.set i z) [D id] (B id)
                        rw [f1, d1]
                        refine f8 _ z _ (splice cells.toList (i * a0.size + q1) (a.eval x).cells.toList).toArray (fun q hq => setRow_other w k q _ (hne q (by rcases hq with hq | hq <;> simp [hq]))) (setRow_heap w k cells _ e _ f5) ?_ (fun j hj hjl => ?_) ?_
                        · simp only [List.size_toArray]
                          rw [splice_length (by rw [hlen, Array.length_toList]; omega), Array.length_toList]
                        · have hjc : j < c := by have : xs.length ≤ c := d2; omega
                          rw [hsp]
                          exact seg_splice_ne hcl hil hjc hzl hj
                        · have hse : seg (splice cells.toList (i * a0.size + q1) (a.eval x).cells.toList).toArray.toList i a0.size = splice (seg cells.toList i a0.size) q1 (a.eval x).cells.toList := by
                            rw [show (splice cells.toList (i * a0.size + q1) (a.eval x).cells.toList).toArray.toList = splice cells.toList (i * a0.size + q1) (a.eval x).cells.toList from rfl, hsp, seg_splice_same hcl hil hzl]
                          rw [hse]
                          exact hz'
                      refine ⟨w.setRow k (splice cells.toList (i * a0.size + q1) (a.eval x).cells.toList).toArray, .inr ⟨?_, D, B, ?_⟩⟩
                      · simp only [execOp, ho, k4, Instr.storeAt, Instr.sureAddr, Sem.run_bind, Sem.run_pure, Result.andThen_ok]
                        rw [hrun]; rfl
                      · exact hF.put o.dst trivial
                  · cases hb1
                · cases hb1
        · cases hd
      · cases hd
    · cases hd
  · cases hd
end
end Go.Ev
/- The evaluator's soundness, part 12: new blocks. -/
set_option linter.unusedSectionVars false
namespace Go.Ev
open Go Go.RowKit

theorem zAV_rep (m : Mem) : ∀ T : Ty, AVReps m (zAV T) (zc T)
  | .int _ => ⟨_, [], rfl, rfl, rfl⟩
  | .bool => ⟨_, [], rfl, rfl, rfl⟩
  | .str => ⟨_, [], rfl, rfl, rfl⟩
  | .sl _ => ⟨_, [], rfl, ⟨none, rfl⟩, rfl⟩
  | .pair a b => AVReps_append (zAV_rep m a) (zAV_rep m b)
  | .st a => zAV_rep m a
  | .arr n a => by
    have ih := zAV_rep m a
    show AVReps m (List.replicate n (zAV a)).flatten (List.replicate n (zc a)).flatten
    induction n with
    | zero => rfl
    | succ n ihn => rw [List.replicate_succ, List.replicate_succ, List.flatten_cons, List.flatten_cons]; exact AVReps_append ih ihn
theorem zc_one (T : Ty) : ∀ u ∈ zc T, u.oneCell' = true := Rep_one (zc_rep (w := default) (A := fun _ => True) T)
theorem zc_length (T : Ty) : (zc T).length = T.size := Rep_len (zc_rep (w := default) (A := fun _ => True) T)
theorem zeroAV_box (m : Mem) {P : Program} {T : Ty} {t : Nat} (hT : TyF P T t) : BoxRep m T (zeroAV T) (zc T) := by
  unfold zeroAV
  cases hs : T.hasSl with
  | false => exact ⟨T.zero, asTy_same _, zc_rep T⟩
  | true =>
    simp only [cond_true]
    have hl : (zAV T).length = T.size := by rw [AVReps_length (zAV_rep m T), zc_length]
    unfold aggOf
    cases hA : T.isAgg with
    | true =>
      refine ⟨zAV T, ?_, zAV_rep m T, zc_one T⟩
      simp [cellsOf, hl, hA, Nat.beq_refl]
    | false =>
      cases T with
      | sl a => exact ⟨[.nil], rfl, ⟨_, [], rfl, ⟨none, rfl⟩, rfl⟩, zc_one (.sl a)⟩
      | pair a b => exact hT.noPair.elim
      | int k => simp [Ty.hasSl] at hs
      | bool => simp [Ty.hasSl] at hs
      | str => simp [Ty.hasSl] at hs
      | st a => simp [Ty.isAgg] at hA
      | arr n a => simp [Ty.isAgg] at hA

theorem zc_ownD {w : World} : ∀ {T : Ty}, T.okD = true → OwnD w T T.zero (zc T) []
  | .int _, _ => ⟨rfl, rfl⟩
  | .bool, _ => ⟨rfl, rfl⟩
  | .str, _ => ⟨rfl, rfl⟩
  | .sl a, _ => ⟨none, 0, rfl, Nat.le_refl _, .inl ⟨rfl, rfl⟩⟩
  | .pair a b, h => by
    simp only [Ty.okD, Bool.and_eq_true] at h
    exact ⟨zc a, zc b, [], [], rfl, rfl, zc_ownD h.1, zc_ownD h.2⟩
  | .st a, h => zc_ownD (T := a) h
  | .arr n a, h => by
    have h : a.hasSl = false := by simpa [Ty.okD] using h
    exact ⟨h, zc_rep (.arr n a), rfl⟩
section
variable {en : Ent} {D : Nat → Value} {B : Nat → List Nat} {S : St} {a : Act} {w : World} {o : Oper}
/-- A new block of cells. -/
theorem Fits.new (h : Fits en D B S a w) (id : Nat) (b : Blk) (v : Value) (cells : Array Value) (e : TypeId)
    (hrep : (∀ k, (memOf en D B S w).A k → (memOf en (upd D id v) (upd B id [w.heap.size]) (S.fresh id b) (w.alloc (.cells cells e))).A k) → (∀ k, (memOf en D B S w).A k → (w.alloc (.cells cells e)).heap[k]? = w.heap[k]?) →
      (∀ i, SlotLe (memOf en D B S w) (memOf en (upd D id v) (upd B id [w.heap.size]) (S.fresh id b) (w.alloc (.cells cells e))) i) →
      BlkRep (memOf en (upd D id v) (upd B id [w.heap.size]) (S.fresh id b) (w.alloc (.cells cells e))) id b) :
    Fits en (upd D id v) (upd B id [w.heap.size]) (S.fresh id b) a (w.alloc (.cells cells e)) := by
  refine h.renew id b v [w.heap.size] ((Below.refl _ _).alloc h.below.size _).m (by simp) ?_ ?_ hrep
  · intro k hk
    rw [List.mem_singleton] at hk; subst hk
    exact ⟨.inr h.below.size, by simp, .inl (Nat.le_refl _)⟩
  · intro k hk _
    exact Go.heap_alloc_old w _ k hk
theorem box_new (h : Fits en D B S a w) (d : Nat) (T : Ty) (av : AV) (cells : Array Value) (e : TypeId) (hl : cells.size = T.size) (hb : BoxRep (memOf en D B S w) T av cells.toList) :
    Fits en (upd D d undef) (upd B d [w.heap.size]) ((S.fresh d (.box T av)).put d (.ptr d ((S.hp d).ver + 1) [])) (a.put (some d) (.pointer (some ⟨w.heap.size, 0, none⟩))) (w.alloc (.cells cells e)) := by
  have hF := h.new d (.box T av) undef cells e (fun hA hw hs => ⟨w.heap.size, cells, e, upd_at _ _ _, Go.heap_alloc_new w _, hl, BoxRep_mono hA hw hs hb⟩)
  refine hF.put (some d) ?_
  refine ⟨⟨_, rfl⟩, ?_, fun b _ hb' => ?_⟩
  · show (S.hp d).ver + 1 ≤ ((S.fresh d (.box T av)).hp d).ver
    unfold St.fresh; rw [set_hp, if_pos rfl]; exact Nat.le_refl _
  · have hb2 : ((S.fresh d (.box T av)).hp d).blk = some b := hb'
    unfold St.fresh at hb2; rw [set_hp, if_pos rfl] at hb2
    injection hb2 with hb2; subst hb2
    exact ⟨w.heap.size, 0, by show (upd B d _ d).head? = _; rw [upd_at]; rfl, by simp only [Blk.place]; cases T <;> rfl, by simp only [Blk.inR]; cases T <;> trivial, rfl⟩
theorem alloc_good (hC : Types en.P en.cx.C) (h : Fits en D B S a w) {t : Nat} {S' : St} {b : Bool} (hd : dAlloc en.cx S o.dst t = some (b, S')) (ho : o.op = .alloc t) : Good en o a S' ((execOp a.eval o).run en.P w) := by
  unfold dAlloc at hd
  split at hd
  · rename_i d T hdst hT
    cases hf : S.free d with
    | false => rw [hf] at hd; cases hd
    | true =>
      rw [hf] at hd
      injection hd with hd; injection hd with h1 h2; subst h2
      have hT' := hC.ok _ _ hT
      have hz := hT'.zero w
      have hcells : (cellsVal T (zc T)).cells.toList = zc T := cellsVal_cells (zc_one T) (zc_length T) hT'.one
      unfold Good
      rw [hdst]
      refine ⟨w.alloc (.cells (cellsVal T (zc T)).cells t), .inl ⟨.pointer (some ⟨w.heap.size, 0, none⟩), ?_, _, _, box_new h d T (zeroAV T) _ t ?_ ?_⟩⟩
      · simp only [execOp, ho, Instr.alloc, Sem.run_bind, hz, Result.andThen_ok, newVar, newRow, run_newObj, Sem.run_pure]
        rfl
      · rw [← Array.length_toList, hcells]; exact zc_length T
      · rw [hcells]; exact zeroAV_box _ hT'
  · cases hd
theorem box_good (hC : Types en.P en.cx.C) (h : Fits en D B S a w) {t : Nat} {x : Operand} {S' : St} {b : Bool} (hd : dBox en.cx S o.dst t x = some (b, S')) (ho : o.op = .box t x) : Good en o a S' ((execOp a.eval o).run en.P w) := by
  unfold dBox at hd
  split at hd
  · rename_i d T hdst hT
    split at hd
    · rename_i l hl
      cases hf : S.free d with
      | false => rw [hf] at hd; cases hd
      | true =>
        rw [hf] at hd
        injection hd with hd; injection hd with h1 h2; subst h2
        have hT' := hC.ok _ _ hT
        have hb := BoxRep_of hT'.isPair (h.eval x) hl
        unfold Good
        rw [hdst]
        refine ⟨w.alloc (.cells (a.eval x).cells t), .inl ⟨.pointer (some ⟨w.heap.size, 0, none⟩), ?_, _, _, box_new h d T _ _ t ?_ hb⟩⟩
        · simp only [execOp, ho, Instr.box, Sem.run_bind, Result.andThen_ok, newVar, newRow, run_newObj, Sem.run_pure]
          rfl
        · rw [← Array.length_toList]; exact BoxRep_length hb
    · cases hd
  · cases hd
theorem blk_put {d : Nat} {b : Blk} {D' : Nat → Value} {B' : Nat → List Nat} {S0 : St} {a : Act} {w' : World} {v : Value} (hv : ∃ ad n c, v = .slice ad n c) (hF : Fits en (upd D' d v) B' (S0.fresh d b) a w') (dst : Option Nat) :
    Fits en (upd D' d v) B' ((S0.fresh d b).put? dst (.own d ((S0.hp d).ver + 1))) (a.put dst v) w' := by
  refine hF.put dst ⟨hv, ?_, fun _ _ => (upd_at _ _ _).symm⟩
  show (S0.hp d).ver + 1 ≤ ((S0.fresh d b).hp d).ver
  unfold St.fresh; rw [set_hp, if_pos rfl]; exact Nat.le_refl _
theorem row_put {d : Nat} {T : Ty} {xs : List T.den} {D' : Nat → Value} {B' : Nat → List Nat} {S0 : St} {a : Act} {w' : World} {v : Value} (hv : ∃ ad n c, v = .slice ad n c) (hF : Fits en (upd D' d v) B' (S0.fresh d (.row T xs)) a w') (dst : Option Nat) :
    Fits en (upd D' d v) B' ((S0.fresh d (.row T xs)).put? dst (.own d ((S0.hp d).ver + 1))) (a.put dst v) w' := blk_put hv hF dst
theorem made_seg (z : List Value) (n i : Nat) (hi : i < n) : seg (madeCells z.toArray (n * z.length)).toList i z.length = z := by
  apply List.ext_getElem?
  intro j
  by_cases hj : j < z.length
  · rw [seg_get hj]
    have hlt : i * z.length + j < n * z.length := by
      have : (i + 1) * z.length ≤ n * z.length := Nat.mul_le_mul_right _ hi
      rw [Nat.add_mul] at this; omega
    simp only [madeCells, Array.toList_map, Array.toList_range, List.getElem?_map, List.getElem?_range hlt, Option.map_some]
    have hmod : (i * z.length + j) % z.length = j := by
      rw [Nat.mul_comm, Nat.mul_add_mod, Nat.mod_eq_of_lt hj]
    simp only [List.size_toArray, hmod]
    rw [List.getElem?_eq_getElem hj]
    simp [hj]
  · rw [List.getElem?_eq_none (by
      unfold seg
      simp only [List.length_take]
      omega), List.getElem?_eq_none (by omega)]
theorem make_good (hC : Types en.P en.cx.C) (h : Fits en D B S a w) {t : Nat} {l c : Operand} {S' : St} {b : Bool} (hd : dMake en.cx S o.dst t l c = some (b, S')) (hb : b = true) (ho : o.op = .makeSlice t l c) : Good en o a S' ((execOp a.eval o).run en.P w) := by
  have el := h.eval l
  have ec := h.eval c
  unfold dMake at hd
  split at hd
  · rename_i d e n m hdst hT hl hc
    cases hf : S.free d with
    | false => rw [hf] at hd; cases hd
    | true =>
      rw [hf] at hd
      injection hd with hd; injection hd with h1 h2; subst h2
      rw [hb] at h1
      simp only [Bool.and_eq_true, decide_eq_true_eq] at h1
      obtain ⟨⟨h10, h11⟩, h12⟩ := h1
      rw [hl] at el; rw [hc] at ec
      have el := val_int el
      have ec := val_int ec
      have h10 : (0 : Int) ≤ n := h10
      have h11 : (n : Int) ≤ 137438953472 := h11
      have h12 : (n : Int) = m := h12
      rw [← h12] at ec
      obtain ⟨e', ht, he', hp⟩ := (hC.ok _ _ hT).sl
      obtain ⟨i, hi⟩ := he'.inf
      have hzc : (cellsVal e (zc e)).cells = (zc e).toArray := by
        apply Array.ext'
        rw [cellsVal_cells (zc_one e) (zc_length e) he'.one]
      have hby : (i.bytes : Int) * n ≤ 281474976710656 := by
        have g1 := hi.bytes
        have g2 : (i.bytes : Int) * n ≤ 1024 * n := Int.mul_le_mul_of_nonneg_right (by omega) h10
        omega
      have hrun := run_make (P := en.P) w t e' i _ ht hi.info hi.zero .i64 .i64 n n h10 (Int.le_refl _) hby (by omega)
      rw [hi.size, hzc] at hrun
      unfold Good
      rw [hdst]
      have hcells : (madeCells (zc e).toArray ((n : Int).toNat * e.size)).size = (n : Int).toNat * e.size := by simp [madeCells]
      refine ⟨_, .inl ⟨.slice (some ⟨w.heap.size, 0, none⟩) (n : Int).toNat (n : Int).toNat, ?_, _, _, blk_put ⟨_, _, _, rfl⟩ (h.new d (bif en.cx.dp && e.deepT then .deep e (List.replicate (n : Int).toNat e.zero) 0 else .row e (List.replicate (n : Int).toNat e.zero)) _ (madeCells (zc e).toArray ((n : Int).toNat * e.size)) e' (fun hA hw hs => ?_)) (some d)⟩⟩
      · simp only [execOp, ho, el, ec, Sem.run_bind]
        rw [hrun]
        rfl
      · have hel : ∀ q x, nth (List.replicate (n : Int).toNat e.zero) q = some x → q < (n : Int).toNat ∧ x = e.zero ∧ seg (madeCells (zc e).toArray ((n : Int).toNat * e.size)).toList q e.size = zc e := by
          intro q x hq
          have hql : q < (n : Int).toNat := by
            have := (List.getElem?_eq_some_iff.1 hq).1
            rwa [List.length_replicate] at this
          have e1 : (List.replicate (n : Int).toNat e.zero)[q]? = some e.zero := by simp [hql]
          have hq' : (List.replicate (n : Int).toNat e.zero)[q]? = some x := hq
          rw [e1] at hq'
          have hs2 := made_seg (zc e) (n : Int).toNat q hql
          rw [zc_length] at hs2
          exact ⟨hql, (Option.some.inj hq').symm, hs2⟩
        cases hdp : (en.cx.dp && e.deepT) with
        | true =>
          simp only [cond_true]
          simp only [Ty.deepT, Bool.and_eq_true] at hdp
          show OwnD _ (.sl e) (List.replicate (n : Int).toNat e.zero) [upd D d _ d] (upd B d _ d)
          rw [upd_at, upd_at]
          refine ⟨some ⟨w.heap.size, 0, none⟩, (n : Int).toNat, by rw [List.length_replicate], by rw [List.length_replicate]; exact Nat.le_refl _, .inr ⟨w.heap.size, _, e', List.replicate (n : Int).toNat [], by rw [flatten_nils fun i b hb => List.eq_of_mem_replicate (List.mem_of_getElem? hb)], rfl, Go.heap_alloc_new w _, hcells, by simp, fun q x b hq hb => ?_⟩⟩
          obtain ⟨_, e1, e2⟩ := hel q x hq
          have e3 : b = [] := List.eq_of_mem_replicate (List.mem_of_getElem? hb)
          subst e1; subst e3
          rw [e2]
          exact zc_ownD hdp.2.2
        | false =>
        simp only [cond_false]
        refine ⟨some ⟨w.heap.size, 0, none⟩, (n : Int).toNat, by rw [List.length_replicate]; exact upd_at _ _ _, by rw [List.length_replicate]; exact Nat.le_refl _, .inr ⟨w.heap.size, _, e', upd_at _ _ _, rfl, Go.heap_alloc_new w _, hcells, ?_⟩⟩
        intro q x hq
        have hql : q < (n : Int).toNat := by
          have := (List.getElem?_eq_some_iff.1 hq).1
          rwa [List.length_replicate] at this
        have hx : x = e.zero := by
          have e1 : (List.replicate (n : Int).toNat e.zero)[q]? = some e.zero := by simp [hql]
          have hq' : (List.replicate (n : Int).toNat e.zero)[q]? = some x := hq
          rw [e1] at hq'; exact (Option.some.inj hq').symm
        subst hx
        have hs2 := made_seg (zc e) (n : Int).toNat q hql
        rw [zc_length] at hs2
        rw [hs2]
        exact zc_rep e
  · cases hd
end
end Go.Ev
/- The evaluator's soundness, part 13: append. -/
set_option linter.unusedSectionVars false
namespace Go.Ev
open Go Go.RowKit

theorem run_append_any {P : Program} {w : World} {t t' ty e e2 : TypeId} {i : TypeInfo} {z : Value} (ht : P.underlying t = some (.slice e)) (ht' : P.underlying t' = some (.slice e2)) (hi : P.info? e = some i) (hz : i.zero = some z) (hb : 0 < i.bytes)
    {ad ad' : Option Addr} {n c m c' : Nat} {olds news : List Value} (hold : ∀ w' : World, (∀ p, w'.cell? p = w.cell? p) → (Builtin.firstCells i.size n (.slice ad n c)).run P w' = .ok olds.toArray w')
    (hnew : ∀ w' : World, (∀ p, w'.cell? p = w.cell? p) → (Builtin.firstCells i.size m (.slice ad' m c')).run P w' = .ok news.toArray w') (hbound : (n + m) * i.bytes ≤ 140737488355328) :
    (n + m ≤ c → ∀ w', (match ad with
        | some p => (storeCells (p.add (n * i.size)) news).run P w
        | none => .ok () w) = .ok () w' → (Builtin.append_ #[t, t'] ty #[.slice ad n c, .slice ad' m c']).run P w = .ok (.slice ad (n + m) c) w') ∧
    (c < n + m → (Builtin.append_ #[t, t'] ty #[.slice ad n c, .slice ad' m c']).run P w = .ok (.slice (some ⟨w.heap.size, 0, none⟩) (n + m) (grownCap w (n + m) c e))
        (w.drew.alloc (.cells (olds.toArray ++ news.toArray ++ Builtin.zeroCells z.cells (grownCap w (n + m) c e - (n + m))) e))) := by
  have hn0 := hnew w (fun _ => rfl)
  have hn1 := hnew w.drew (fun _ => rfl)
  have ho1 := hold w.drew (fun _ => rfl)
  have hsmall : n + m ≤ 140737488355328 := Nat.le_trans (Nat.le_mul_of_pos_right _ hb) hbound
  constructor
  · intro hroom w' hst
    cases ad with
    | none =>
      injection hst with _ hst; subst hst
      simp [Builtin.append_, run_underlying ht, run_underlying ht', sizeOf, typeInfo, hi, Builtin.lenOf, hroom, hn0]
    | some p =>
      simp [Builtin.append_, run_underlying ht, run_underlying ht', sizeOf, typeInfo, hi, Builtin.lenOf, hroom, hn0, hst]
  · intro hgrow
    have hn : ¬ (n + m ≤ c) := by omega
    have h63' : ¬ (9223372036854775807 < ((n : Int) + (m : Int))) := by omega
    have hfit := growslice_fits (need := n + m) (old := c) (bytes := i.bytes) hgrow hbound
    have h48' : ¬ (281474976710656 < Builtin.nextslicecap (n + m) c * i.bytes) := by omega
    simp [Builtin.append_, run_underlying ht, run_underlying ht', sizeOf, typeInfo, zeroValue, hi, hz, Builtin.lenOf, hn, h63', h48', Question.forced, hn1, ho1, newRow, grownCap]
    congr 2
    apply Array.ext'
    simp [List.append_assoc]

section
variable {en : Ent} {D : Nat → Value} {B : Nat → List Nat} {S : St} {a : Act} {w : World} {o : Oper}
theorem AX_gone (h : Fits en D B S a w) (ids : List Nat) : ∀ k, AX (memOf en D B S w) ids k → (memOf en D B (S.gone ids) w).A k := by
  rintro k (h1 | ⟨id, h1, h2, h3⟩)
  · exact ⟨h1.1, fun ⟨i, g1, g2⟩ => h1.2 ⟨i, by
      rw [gone_hp] at g1
      by_cases e : i ∈ ids
      · rw [if_pos e] at g1; cases g1
      · rw [if_neg e] at g1; exact g1, g2⟩⟩
  · refine ⟨(by
      obtain ⟨g1, g2⟩ := h.lt id k h2 h3
      rcases g1 with g1 | g1
      · exact .inl (.inr g1)
      · exact .inr ⟨g1, g2⟩), fun ⟨i, g1, g2⟩ => ?_⟩
    rw [gone_hp] at g1
    by_cases e : i ∈ ids
    · rw [if_pos e] at g1; cases g1
    · rw [if_neg e] at g1
      have := h.inj i id k g1 h2 g2 h3
      subst this
      exact e h1
theorem append_core (h : Fits en D B S a w) {el : Ty} {e e2 t t' ty : TypeId} {i : TypeInfo} (ht : en.P.underlying t = some (.slice e)) (ht' : en.P.underlying t' = some (.slice e2)) (hi : Inf en.P el e i) (hone : el.isAgg = false → el.size = 1)
    {id : Nat} {v vy : Value} {xs ys : List el.den} {bk : List Nat} (hbase : RowRep w (memOf en D B S w).A v el xs bk) (hbk : bk = [] ∨ ((S.hp id).blk.isSome = true ∧ B id = bk)) {A2 : Nat → Prop} (hy : Rep w A2 (.sl el) ys [vy])
    (hyA : ∀ x cs, Rep w A2 el x cs → Rep w (memOf en D B S w).A el x cs) (hbound : xs.length + ys.length ≤ maxGrow) :
    ∃ v' w' B', (Builtin.append_ #[t, t'] ty #[v, vy]).run en.P w = .ok v' w' ∧ (∃ ad n c, v' = .slice ad n c) ∧ Fits en (upd D id v') B' (S.fresh id (.row el (xs ++ ys))) a w' := by
  obtain ⟨ad, c, hv, hc, hb⟩ := hbase
  subst hv
  have hzc : (cellsVal el (zc el)).cells.toList = zc el := cellsVal_cells (zc_one el) (zc_length el) hone
  have hzsz : (cellsVal el (zc el)).cells.size = el.size := by rw [← Array.length_toList, hzc, zc_length]
  obtain ⟨ad', c', news, rfl, _, hnl, hnr, hnew⟩ := run_first (P := en.P) hy
  -- the old cells
  have holds : ∃ olds : List Value, olds.length = xs.length * el.size ∧ (∀ i x, nth xs i = some x → Rep w (memOf en D B S w).A el x (seg olds i el.size)) ∧
      (∀ w' : World, (∀ p, w'.cell? p = w.cell? p) → (Builtin.firstCells el.size xs.length (.slice ad xs.length c)).run en.P w' = .ok olds.toArray w') := by
    rcases hb with ⟨_, hc0⟩ | ⟨k, cells, ee, h1, h2, h3, h4, h5⟩
    · have hx : xs = [] := List.eq_nil_of_length_eq_zero (by omega)
      subst hx
      refine ⟨[], by simp, fun i x hi => by simp [nth] at hi, fun w' _ => ?_⟩
      cases ad with
      | none => simp [Builtin.firstCells]
      | some p => simp [Builtin.firstCells, loadCells, loadCellsFrom]
    · have hle : xs.length * el.size ≤ cells.toList.length := by
        have e0 : cells.toList.length = c * el.size := by rw [Array.length_toList]; exact h4
        rw [e0]; exact Nat.mul_le_mul_right _ hc
      refine ⟨cells.toList.take (xs.length * el.size), by rw [List.length_take]; omega, fun i x hi => ?_, fun w' hw' => ?_⟩
      · have hil : i < xs.length := (List.getElem?_eq_some_iff.1 hi).1
        have : seg (cells.toList.take (xs.length * el.size)) i el.size = seg cells.toList i el.size := by
          have h8 : (i + 1) * el.size ≤ xs.length * el.size := Nat.mul_le_mul_right _ hil
          rw [Nat.add_mul, Nat.one_mul] at h8
          apply ext_get
          intro j
          by_cases hj : j < el.size
          · rw [seg_get hj, seg_get hj, List.getElem?_take, if_pos (by omega)]
          · rw [List.getElem?_eq_none (by unfold seg; rw [List.length_take]; omega), List.getElem?_eq_none (by unfold seg; rw [List.length_take]; omega)]
        rw [this]; exact h5 i x hi
      · subst h2
        refine run_firstCells_some (P := en.P) w' el.size xs.length ⟨k, 0, none⟩ xs.length c _ (by rw [List.length_take]; omega) (fun j u hu => ?_)
        rw [Addr.add_lit, hw']
        rw [List.getElem?_take] at hu
        split at hu
        · simp only [World.cell?, h3, Option.isSome_none, Bool.false_eq_true, if_false, Nat.zero_add]
          simpa using hu
        · cases hu
  obtain ⟨olds, hol, hor, hold⟩ := holds
  have hb47 : (xs.length + ys.length) * i.bytes ≤ 140737488355328 := by
    have g1 := hi.bytes
    have g2 : (xs.length + ys.length) * i.bytes ≤ maxGrow * 1024 := Nat.mul_le_mul hbound g1
    unfold maxGrow at g2
    omega
  rw [← hi.size] at hold hnew
  obtain ⟨room, grow⟩ := run_append_any (P := en.P) (w := w) (ty := ty) ht ht' hi.info hi.zero hi.bpos hold hnew hb47
  rw [hi.size] at room
  -- what an element of the sum reads as, once its cells lie so
  have hsum : ∀ cells : List Value, (∀ j, j < xs.length * el.size → cells[j]? = olds[j]?) → (∀ j, j < ys.length * el.size → cells[xs.length * el.size + j]? = news[j]?) →
      ∀ q x, nth (xs ++ ys) q = some x → Rep w (memOf en D B S w).A el x (seg cells q el.size) := by
    intro cells h1 h2 q x hq
    by_cases hql : q < xs.length
    · have hq' : nth xs q = some x := by
        unfold nth at *
        rwa [List.getElem?_append_left hql] at hq
      have h8 : (q + 1) * el.size ≤ xs.length * el.size := Nat.mul_le_mul_right _ hql
      rw [Nat.add_mul, Nat.one_mul] at h8
      have := hor q x hq'
      have e : seg cells q el.size = seg olds q el.size := by
        apply ext_get
        intro j
        by_cases hj : j < el.size
        · rw [seg_get hj, seg_get hj, h1 _ (by omega)]
        · rw [List.getElem?_eq_none (by unfold seg; rw [List.length_take]; omega), List.getElem?_eq_none (by unfold seg; rw [List.length_take]; omega)]
      rw [e]; exact this
    · have hq' : nth ys (q - xs.length) = some x := by
        unfold nth at *
        rwa [List.getElem?_append_right (by omega)] at hq
      have hql2 : q - xs.length < ys.length := (List.getElem?_eq_some_iff.1 hq').1
      have h8 : (q - xs.length + 1) * el.size ≤ ys.length * el.size := Nat.mul_le_mul_right _ hql2
      rw [Nat.add_mul, Nat.one_mul] at h8
      have hqe : q * el.size = xs.length * el.size + (q - xs.length) * el.size := by
        rw [← Nat.add_mul]; congr 1; omega
      have := hyA _ _ (hnr _ x hq')
      have e : seg cells q el.size = seg news (q - xs.length) el.size := by
        apply ext_get
        intro j
        by_cases hj : j < el.size
        · rw [seg_get hj, seg_get hj, hqe, Nat.add_assoc, h2 _ (by omega)]
        · rw [List.getElem?_eq_none (by unfold seg; rw [List.length_take]; omega), List.getElem?_eq_none (by unfold seg; rw [List.length_take]; omega)]
      rw [e]; exact this
  by_cases hroom : xs.length + ys.length ≤ c
  · rcases hb with ⟨hb0, hc0⟩ | ⟨k, cells, ee, h1, h2, h3, h4, h5⟩
    · -- nothing at all
      have hx : xs = [] := List.eq_nil_of_length_eq_zero (by omega)
      have hyy : ys = [] := List.eq_nil_of_length_eq_zero (by omega)
      have hn0 : news = [] := List.eq_nil_of_length_eq_zero (by rw [hnl, hyy]; simp)
      have hrun := room hroom w (by
        rw [hn0]
        cases ad <;> rfl)
      refine ⟨_, w, upd B id [], hrun, ⟨_, _, _, rfl⟩, ?_⟩
      refine h.renew id _ _ [] (Below.refl _ _).m List.nodup_nil (fun k hk => by cases hk) (fun _ _ _ => rfl) (fun hA hw hs => ?_)
      refine ⟨ad, c, ?_, by rw [List.length_append]; exact hroom, .inl ⟨upd_at _ _ _, hc0⟩⟩
      rw [List.length_append]; exact upd_at _ _ _
    · -- in place
      have hbk' : (S.hp id).blk.isSome = true ∧ B id = bk := by
        rcases hbk with e | e
        · rw [e] at h1; cases h1
        · exact e
      have hBk : B id = [k] := hbk'.2.trans h1
      have hBm : k ∈ B id := by rw [hBk]; simp
      have hlt := h.lt id k hbk'.1 hBm
      have hfit : xs.length * el.size + ys.length * el.size ≤ cells.size := by
        rw [h4, ← Nat.add_mul]; exact Nat.mul_le_mul_right _ hroom
      have hnone : ∀ u ∈ news, u.oneCell' = true := by
        intro u hu
        obtain ⟨j, hj⟩ := List.mem_iff_getElem?.1 hu
        have hjl : j < ys.length * el.size := by rw [← hnl]; exact (List.getElem?_eq_some_iff.1 hj).1
        have hsp := hi.pos
        have hq : j / el.size < ys.length := Nat.div_lt_of_lt_mul (by rw [Nat.mul_comm]; exact hjl)
        have hx := part_of_list ys (j / el.size) el.zero hq
        refine Rep_one (hnr _ _ hx) u (List.mem_iff_getElem?.2 ⟨j % el.size, ?_⟩)
        rw [seg_get (Nat.mod_lt _ hsp), Nat.div_add_mod' j el.size]
        exact hj
      have hst := run_storeCells_at en.P k (xs.length * el.size) ee news 0 cells w h3 (by rw [hnl]; simpa using hfit) hnone
      have hrun := room hroom _ (by
        rw [h2]
        simp only [Addr.add_lit, Nat.zero_add]
        exact hst)
      have hcl : ∀ j, j < xs.length * el.size → (splice cells.toList (xs.length * el.size) news)[j]? = olds[j]? := by
        intro j hj
        rw [splice_get (by rw [hnl, Array.length_toList]; exact hfit), if_neg (by omega)]
        have := hold w (fun _ => rfl)
        rw [h2] at this
        have h6 := run_firstCells_some (P := en.P) w el.size xs.length ⟨k, 0, none⟩ xs.length c (cells.toList.take (xs.length * el.size)) (by have e0 : cells.toList.length = cells.size := Array.length_toList; rw [List.length_take]; omega) (fun j u hu => by
          rw [Addr.add_lit]
          rw [List.getElem?_take] at hu
          split at hu
          · simp only [World.cell?, h3, Option.isSome_none, Bool.false_eq_true, if_false, Nat.zero_add]
            simpa using hu
          · cases hu)
        rw [hi.size] at this
        rw [h6] at this
        injection this with this
        have e : cells.toList.take (xs.length * el.size) = olds := by
          have := congrArg Array.toList this
          simpa using this
        rw [← e, List.getElem?_take, if_pos hj]
      have hcr : ∀ j, j < ys.length * el.size → (splice cells.toList (xs.length * el.size) news)[xs.length * el.size + j]? = news[j]? := by
        intro j hj
        rw [splice_get (by rw [hnl, Array.length_toList]; exact hfit), if_pos (by omega)]
        congr 1; omega
      have hnw : w.setRow k (cells.toList.take (xs.length * el.size + 0) ++ news ++ cells.toList.drop (xs.length * el.size + 0 + news.length)).toArray = w.setRow k (splice cells.toList (xs.length * el.size) news).toArray := by
        simp only [Nat.add_zero, splice]
      rw [hnw] at hrun
      refine ⟨_, _, upd B id [k], hrun, ⟨_, _, _, rfl⟩, ?_⟩
      refine h.renew id _ _ [k] ⟨rfl, rfl, rfl, by simp, fun q hq hm => setRow_other w k q _ (fun e => by
        subst e
        rcases hlt.1 with h1 | h1
        · exact hm h1
        · omega)⟩ (by simp) ?_ ?_ (fun hA hw hs => ?_)
      · intro q hq
        rw [List.mem_singleton] at hq; subst hq
        exact ⟨hlt.1, by simpa using hlt.2, .inr ⟨hbk'.1, hBm⟩⟩
      · intro q hq hne
        refine setRow_other w k q _ (fun e => hne ⟨hbk'.1, by rw [e]; exact hBm⟩)
      · refine ⟨ad, c, ?_, by rw [List.length_append]; exact hroom, .inr ⟨k, _, ee, upd_at _ _ _, h2, setRow_heap w k cells _ ee _ h3, ?_, fun q x hq => ?_⟩⟩
        · rw [List.length_append]; exact upd_at _ _ _
        · simp only [List.size_toArray]
          rw [splice_length (by rw [hnl, Array.length_toList]; exact hfit), Array.length_toList, h4]
        · exact Rep_mono hA hw (hsum _ hcl hcr q x hq)
  · -- moved
    have hrun := grow (by omega)
    have hg := grownCap_ge w (xs.length + ys.length) c e
    have hzz : ((cellsVal el (zc el)).cells).size = el.size := hzsz
    refine ⟨_, _, upd B id [w.heap.size], hrun, ⟨_, _, _, rfl⟩, ?_⟩
    refine h.renew id _ _ [w.heap.size] ((Below.refl _ _).drew.alloc h.below.size _).m (by simp) ?_ ?_ (fun hA hw hs => ?_)
    · intro q hq
      rw [List.mem_singleton] at hq; subst hq
      exact ⟨.inr h.below.size, by simp, .inl (Nat.le_refl _)⟩
    · intro q hq _
      exact Go.heap_alloc_old w.drew _ q hq
    · refine ⟨some ⟨w.heap.size, 0, none⟩, _, ?_, by rw [List.length_append]; exact hg, .inr ⟨w.heap.size, _, e, upd_at _ _ _, rfl, Go.heap_alloc_new w.drew _, ?_, fun q x hq => ?_⟩⟩
      · rw [List.length_append]; exact upd_at _ _ _
      · simp only [Array.size_append, List.size_toArray, size_zeroCells, hzz, hol, hnl]
        rw [← Nat.add_mul, ← Nat.add_mul]
        congr 1; omega
      · refine Rep_mono hA hw (hsum _ ?_ ?_ q x hq)
        · intro j hj
          simp only [Array.toList_append, List.append_assoc]
          rw [List.getElem?_append_left (by rw [hol]; exact hj)]
        · intro j hj
          simp only [Array.toList_append, List.append_assoc]
          rw [List.getElem?_append_right (by rw [hol]; omega), hol, List.getElem?_append_left (by rw [hnl]; omega)]
          congr 1; omega
theorem first_own {P : Program} {w : World} {el : Ty} {xs : List el.den} {v : Value} {bs : List Nat} (h : OwnD w (.sl el) xs [v] bs) :
    ∃ (ad : Option Addr) (c : Nat) (olds : List Value) (bss : List (List Nat)), v = .slice ad xs.length c ∧ xs.length ≤ c ∧ olds.length = xs.length * el.size ∧ bss.length = xs.length ∧
      (∀ i x b, nth xs i = some x → nth bss i = some b → OwnD w el x (seg olds i el.size) b) ∧
      (∀ w' : World, (∀ p, w'.cell? p = w.cell? p) → (Builtin.firstCells el.size xs.length (.slice ad xs.length c)).run P w' = .ok olds.toArray w') ∧
      ((bs = [] ∧ c = 0 ∧ bss = []) ∨ ∃ k cells e, bs = k :: bss.flatten ∧ ad = some ⟨k, 0, none⟩ ∧ w.heap[k]? = some (.cells cells e (0, 0)) ∧ cells.size = c * el.size ∧ olds = cells.toList.take (xs.length * el.size)) := by
  obtain ⟨ad, c, h1, hc, h3⟩ := h
  injection h1 with h1
  have hc : xs.length ≤ c := hc
  have h1 : v = .slice ad xs.length c := h1
  rcases h3 with ⟨h3, hc0⟩ | ⟨k, cells, e, bss, h3, h4, h5, h6, h7, h8⟩
  · have hx : xs = [] := List.eq_nil_of_length_eq_zero (by omega)
    subst hx
    refine ⟨ad, c, [], [], h1, hc, by simp, rfl, fun i x b hi => by simp [nth] at hi, fun w' _ => ?_, .inl ⟨h3, hc0, rfl⟩⟩
    cases ad with
    | none => simp [Builtin.firstCells]
    | some p => simp [Builtin.firstCells, loadCells, loadCellsFrom]
  · have hle : xs.length * el.size ≤ cells.toList.length := by
      have e0 : cells.toList.length = c * el.size := by rw [Array.length_toList]; exact h6
      rw [e0]; exact Nat.mul_le_mul_right _ hc
    refine ⟨ad, c, cells.toList.take (xs.length * el.size), bss, h1, hc, by rw [List.length_take]; omega, h7, fun i x b hi hb => ?_, fun w' hw' => ?_, .inr ⟨k, cells, e, h3, h4, h5, h6, rfl⟩⟩
    · have hil : i < xs.length := (List.getElem?_eq_some_iff.1 hi).1
      have : seg (cells.toList.take (xs.length * el.size)) i el.size = seg cells.toList i el.size := by
        have h8 : (i + 1) * el.size ≤ xs.length * el.size := Nat.mul_le_mul_right _ hil
        rw [Nat.add_mul, Nat.one_mul] at h8
        apply ext_get
        intro j
        by_cases hj : j < el.size
        · rw [seg_get hj, seg_get hj, List.getElem?_take, if_pos (by omega)]
        · rw [List.getElem?_eq_none (by unfold seg; rw [List.length_take]; omega), List.getElem?_eq_none (by unfold seg; rw [List.length_take]; omega)]
      rw [this]; exact h8 i x b hi hb
    · subst h4
      refine run_firstCells_some (P := P) w' el.size xs.length ⟨k, 0, none⟩ xs.length c _ (by rw [List.length_take]; omega) (fun j u hu => ?_)
      rw [Addr.add_lit, hw']
      rw [List.getElem?_take] at hu
      split at hu
      · simp only [World.cell?, h5, Option.isSome_none, Bool.false_eq_true, if_false, Nat.zero_add]
        simpa using hu
      · cases hu
/-- A row of rows behind another. -/
theorem append_coreD (h : Fits en D B S a w) {el : Ty} {e e2 t t' ty : TypeId} {i : TypeInfo} (ht : en.P.underlying t = some (.slice e)) (ht' : en.P.underlying t' = some (.slice e2)) (hi : Inf en.P el e i) (hone : el.isAgg = false → el.size = 1)
    {id id2 : Nat} {v vy : Value} {xs ys : List el.den} {bx : List Nat} (hbase : OwnD w (.sl el) xs [v] bx) (hbk : bx = [] ∨ ((S.hp id).blk.isSome = true ∧ B id = bx)) (hy : OwnD w (.sl el) ys [vy] (B id2)) (hs2 : (S.hp id2).blk.isSome = true) (hne : id ≠ id2)
    (hbound : xs.length + ys.length ≤ maxGrow) :
    ∃ v' w' B', (Builtin.append_ #[t, t'] ty #[v, vy]).run en.P w = .ok v' w' ∧ (∃ ad n c, v' = .slice ad n c) ∧ Fits en (upd D id v') B' ((S.gone [id2]).fresh id (.deep el (xs ++ ys) 0)) a w' := by
  have hzc : (cellsVal el (zc el)).cells.toList = zc el := cellsVal_cells (zc_one el) (zc_length el) hone
  have hzsz : (cellsVal el (zc el)).cells.size = el.size := by rw [← Array.length_toList, hzc, zc_length]
  obtain ⟨ad, c, olds, bsx, rfl, hc, hol, hbl, hor, hold, hb⟩ := first_own (P := en.P) hbase
  obtain ⟨ad', c', news, bsy, rfl, hc', hnl, hbl', hnr, hnew, hb'⟩ := first_own (P := en.P) hy
  have hb47 : (xs.length + ys.length) * i.bytes ≤ 140737488355328 := by
    have g1 := hi.bytes
    have g2 : (xs.length + ys.length) * i.bytes ≤ maxGrow * 1024 := Nat.mul_le_mul hbound g1
    unfold maxGrow at g2
    omega
  rw [← hi.size] at hold hnew
  obtain ⟨room, grow⟩ := run_append_any (P := en.P) (w := w) (ty := ty) ht ht' hi.info hi.zero hi.bpos hold hnew hb47
  rw [hi.size] at room
  have hinx : ∀ q, q ∈ bsx.flatten → (S.hp id).blk.isSome = true ∧ q ∈ B id ∧ bx ≠ [] := by
    intro q hq
    rcases hb with ⟨_, _, h0⟩ | ⟨k, cells, ee, h1, _⟩
    · rw [h0] at hq; cases hq
    · rcases hbk with g | ⟨g1, g2⟩
      · rw [g] at h1; cases h1
      · exact ⟨g1, by rw [g2, h1]; simp [hq], by rw [h1]; simp⟩
  have hiny : ∀ q, q ∈ bsy.flatten → q ∈ B id2 := by
    intro q hq
    rcases hb' with ⟨_, _, h0⟩ | ⟨k, cells, ee, h1, _⟩
    · rw [h0] at hq; cases hq
    · rw [h1]; simp [hq]
  have hndx : bsx.flatten.Nodup := by
    rcases hb with ⟨_, _, h0⟩ | ⟨k, cells, ee, h1, _⟩
    · rw [h0]; exact List.nodup_nil
    · rcases hbk with g | ⟨g1, g2⟩
      · rw [g] at h1; cases h1
      · have := h.nd id g1
        rw [g2, h1, List.nodup_cons] at this
        exact this.2
  have hndy : bsy.flatten.Nodup := by
    rcases hb' with ⟨_, _, h0⟩ | ⟨k, cells, ee, h1, _⟩
    · rw [h0]; exact List.nodup_nil
    · have := h.nd id2 hs2
      rw [h1, List.nodup_cons] at this
      exact this.2
  have hdis : ∀ q, q ∈ bsy.flatten → ((S.hp id).blk.isSome = true ∧ q ∈ B id) → False := fun q hq hh => hne (h.inj id id2 q hh.1 hs2 hh.2 (hiny q hq))
  have hnd0 : (bsx.flatten ++ bsy.flatten).Nodup := by
    rw [List.nodup_append]
    refine ⟨hndx, hndy, fun x hx y hy e => ?_⟩
    subst e
    obtain ⟨g1, g2, _⟩ := hinx x hx
    exact hdis x hy ⟨g1, g2⟩
  -- what an element of the sum is, once its cells lie so
  have hsum : ∀ (w' : World) (cells : List Value), (∀ q, q ∈ bsx.flatten ∨ q ∈ bsy.flatten → w'.heap[q]? = w.heap[q]?) → (∀ j, j < xs.length * el.size → cells[j]? = olds[j]?) → (∀ j, j < ys.length * el.size → cells[xs.length * el.size + j]? = news[j]?) →
      ∀ q x b, nth (xs ++ ys) q = some x → nth (bsx ++ bsy) q = some b → OwnD w' el x (seg cells q el.size) b := by
    intro w' cells hw' h1 h2 q x b hq hqb
    by_cases hql : q < xs.length
    · have hq' : nth xs q = some x := by
        unfold nth at *
        rwa [List.getElem?_append_left hql] at hq
      have hqb' : nth bsx q = some b := by
        unfold nth at *
        rwa [List.getElem?_append_left (by omega)] at hqb
      have h8 : (q + 1) * el.size ≤ xs.length * el.size := Nat.mul_le_mul_right _ hql
      rw [Nat.add_mul, Nat.one_mul] at h8
      have e : seg cells q el.size = seg olds q el.size := by
        apply ext_get
        intro j
        by_cases hj : j < el.size
        · rw [seg_get hj, seg_get hj, h1 _ (by omega)]
        · rw [List.getElem?_eq_none (by unfold seg; rw [List.length_take]; omega), List.getElem?_eq_none (by unfold seg; rw [List.length_take]; omega)]
      rw [e]; exact OwnD_mono (hor q x b hq' hqb') (fun k hk => hw' k (.inl (mem_flatten_nth hqb' hk)))
    · have hq' : nth ys (q - xs.length) = some x := by
        unfold nth at *
        rwa [List.getElem?_append_right (by omega)] at hq
      have hqb' : nth bsy (q - xs.length) = some b := by
        unfold nth at *
        rw [List.getElem?_append_right (by omega), hbl] at hqb
        exact hqb
      have hql2 : q - xs.length < ys.length := (List.getElem?_eq_some_iff.1 hq').1
      have h8 : (q - xs.length + 1) * el.size ≤ ys.length * el.size := Nat.mul_le_mul_right _ hql2
      rw [Nat.add_mul, Nat.one_mul] at h8
      have hqe : q * el.size = xs.length * el.size + (q - xs.length) * el.size := by
        rw [← Nat.add_mul]; congr 1; omega
      have e : seg cells q el.size = seg news (q - xs.length) el.size := by
        apply ext_get
        intro j
        by_cases hj : j < el.size
        · rw [seg_get hj, seg_get hj, hqe, Nat.add_assoc, h2 _ (by omega)]
        · rw [List.getElem?_eq_none (by unfold seg; rw [List.length_take]; omega), List.getElem?_eq_none (by unfold seg; rw [List.length_take]; omega)]
      rw [e]; exact OwnD_mono (hnr _ x b hq' hqb') (fun k hk => hw' k (.inr (mem_flatten_nth hqb' hk)))
  have hfrom : ∀ q, q ∈ bsx.flatten ++ bsy.flatten → (en.M q ∨ en.w0.heap.size ≤ q) ∧ q < w.heap.size ∧ ∃ j, (j = id ∨ j ∈ [id2]) ∧ (S.hp j).blk.isSome = true ∧ q ∈ B j := by
    intro q hq
    rcases List.mem_append.1 hq with hq | hq
    · obtain ⟨g1, g2, _⟩ := hinx q hq
      have := h.lt id q g1 g2
      exact ⟨this.1, this.2, id, .inl rfl, g1, g2⟩
    · have := h.lt id2 q hs2 (hiny q hq)
      exact ⟨this.1, this.2, id2, .inr (by simp), hs2, hiny q hq⟩
  by_cases hroom : xs.length + ys.length ≤ c
  · rcases hb with ⟨hb0, hc0, hbx0⟩ | ⟨k, cells, ee, h1, h2, h3, h4, h5⟩
    · -- nothing at all
      have hx : xs = [] := List.eq_nil_of_length_eq_zero (by omega)
      have hyy : ys = [] := List.eq_nil_of_length_eq_zero (by omega)
      have hn0 : news = [] := List.eq_nil_of_length_eq_zero (by rw [hnl, hyy]; simp)
      have hrun := room hroom w (by
        rw [hn0]
        cases ad <;> rfl)
      refine ⟨_, w, upd B id [], hrun, ⟨_, _, _, rfl⟩, ?_⟩
      refine h.absorb id [id2] _ _ [] (Below.refl _ _).m List.nodup_nil (fun k hk => by cases hk) (fun _ _ _ => rfl) (fun hA hw hs => ?_)
      show OwnD _ (.sl el) (xs ++ ys) [upd D id _ id] (upd B id _ id)
      rw [upd_at, upd_at]
      exact ⟨ad, c, by rw [List.length_append], by rw [List.length_append]; exact hroom, .inl ⟨rfl, hc0⟩⟩
    · -- in place
      have hbk' : (S.hp id).blk.isSome = true ∧ B id = bx := by
        rcases hbk with e | e
        · rw [e] at h1; cases h1
        · exact e
      have hBm : k ∈ B id := by rw [hbk'.2, h1]; simp
      have hlt := h.lt id k hbk'.1 hBm
      have hkx : k ∉ bsx.flatten := by
        have := h.nd id hbk'.1
        rw [hbk'.2, h1, List.nodup_cons] at this
        exact this.1
      have hky : k ∉ bsy.flatten := fun hm => hdis k hm ⟨hbk'.1, hBm⟩
      have hfit : xs.length * el.size + ys.length * el.size ≤ cells.size := by
        rw [h4, ← Nat.add_mul]; exact Nat.mul_le_mul_right _ hroom
      have hnone : ∀ u ∈ news, u.oneCell' = true := by
        intro u hu
        obtain ⟨j, hj⟩ := List.mem_iff_getElem?.1 hu
        have hjl : j < ys.length * el.size := by rw [← hnl]; exact (List.getElem?_eq_some_iff.1 hj).1
        have hsp := hi.pos
        have hq : j / el.size < ys.length := Nat.div_lt_of_lt_mul (by rw [Nat.mul_comm]; exact hjl)
        have hx := part_of_list ys (j / el.size) el.zero hq
        have hbb := part_of_list bsy (j / el.size) [] (by omega)
        refine Rep_one (OwnD_rep (hnr _ _ _ hx hbb)) u (List.mem_iff_getElem?.2 ⟨j % el.size, ?_⟩)
        rw [seg_get (Nat.mod_lt _ hsp), Nat.div_add_mod' j el.size]
        exact hj
      have hst := run_storeCells_at en.P k (xs.length * el.size) ee news 0 cells w h3 (by rw [hnl]; simpa using hfit) hnone
      have hrun := room hroom _ (by
        rw [h2]
        simp only [Addr.add_lit, Nat.zero_add]
        exact hst)
      have hcl : ∀ j, j < xs.length * el.size → (splice cells.toList (xs.length * el.size) news)[j]? = olds[j]? := by
        intro j hj
        rw [splice_get (by rw [hnl, Array.length_toList]; exact hfit), if_neg (by omega), h5, List.getElem?_take, if_pos hj]
      have hcr : ∀ j, j < ys.length * el.size → (splice cells.toList (xs.length * el.size) news)[xs.length * el.size + j]? = news[j]? := by
        intro j hj
        rw [splice_get (by rw [hnl, Array.length_toList]; exact hfit), if_pos (by omega)]
        congr 1; omega
      have hnw : w.setRow k (cells.toList.take (xs.length * el.size + 0) ++ news ++ cells.toList.drop (xs.length * el.size + 0 + news.length)).toArray = w.setRow k (splice cells.toList (xs.length * el.size) news).toArray := by
        simp only [Nat.add_zero, splice]
      rw [hnw] at hrun
      refine ⟨_, _, upd B id (k :: (bsx ++ bsy).flatten), hrun, ⟨_, _, _, rfl⟩, ?_⟩
      refine h.absorb id [id2] _ _ (k :: (bsx ++ bsy).flatten) ⟨rfl, rfl, rfl, by simp, fun q hq hm => setRow_other w k q _ (fun e => by
        subst e
        rcases hlt.1 with h1 | h1
        · exact hm h1
        · omega)⟩ ?_ ?_ ?_ (fun hA hw hs => ?_)
      · rw [List.flatten_append, List.nodup_cons]
        exact ⟨fun hm => (List.mem_append.1 hm).elim hkx hky, hnd0⟩
      · intro q hq
        rw [List.flatten_append] at hq
        rcases List.mem_cons.1 hq with hq | hq
        · subst hq
          exact ⟨hlt.1, by simpa using hlt.2, .inr ⟨id, .inl rfl, hbk'.1, hBm⟩⟩
        · obtain ⟨g1, g2, g3⟩ := hfrom q hq
          exact ⟨g1, by simpa using g2, .inr g3⟩
      · intro q hq hne
        refine setRow_other w k q _ (fun e => hne ⟨hbk'.1, by rw [e]; exact hBm⟩)
      · show OwnD _ (.sl el) (xs ++ ys) [upd D id _ id] (upd B id _ id)
        rw [upd_at, upd_at]
        refine ⟨ad, c, by rw [List.length_append], by rw [List.length_append]; exact hroom, .inr ⟨k, _, ee, bsx ++ bsy, rfl, h2, setRow_heap w k cells _ ee _ h3, ?_, by rw [List.length_append, List.length_append, hbl, hbl'], fun q x b hq hqb => ?_⟩⟩
        · simp only [List.size_toArray]
          rw [splice_length (by rw [hnl, Array.length_toList]; exact hfit), Array.length_toList, h4]
        · refine hsum _ _ (fun q hq => setRow_other w k q _ (fun e => ?_)) hcl hcr q x b hq hqb
          subst e
          exact hq.elim hkx hky
  · -- moved
    have hrun := grow (by omega)
    have hg := grownCap_ge w (xs.length + ys.length) c e
    have hzz : ((cellsVal el (zc el)).cells).size = el.size := hzsz
    have hold2 : ∀ q, q < w.heap.size → (w.drew.alloc (.cells (olds.toArray ++ news.toArray ++ Builtin.zeroCells (cellsVal el (zc el)).cells (grownCap w (xs.length + ys.length) c e - (xs.length + ys.length))) e)).heap[q]? = w.heap[q]? := fun q hq => Go.heap_alloc_old w.drew _ q hq
    refine ⟨_, _, upd B id (w.heap.size :: (bsx ++ bsy).flatten), hrun, ⟨_, _, _, rfl⟩, ?_⟩
    refine h.absorb id [id2] _ _ (w.heap.size :: (bsx ++ bsy).flatten) ((Below.refl _ _).drew.alloc h.below.size _).m ?_ ?_ ?_ (fun hA hw hs => ?_)
    · rw [List.flatten_append, List.nodup_cons]
      refine ⟨fun hm => ?_, hnd0⟩
      have := (hfrom _ hm).2.1
      omega
    · intro q hq
      rw [List.flatten_append] at hq
      rcases List.mem_cons.1 hq with hq | hq
      · subst hq
        exact ⟨.inr h.below.size, by simp, .inl (Nat.le_refl _)⟩
      · obtain ⟨g1, g2, g3⟩ := hfrom q hq
        refine ⟨g1, ?_, .inr g3⟩
        have : w.heap.size ≤ (w.drew.alloc (.cells (olds.toArray ++ news.toArray ++ Builtin.zeroCells (cellsVal el (zc el)).cells (grownCap w (xs.length + ys.length) c e - (xs.length + ys.length))) e)).heap.size := by simp
        omega
    · intro q hq _
      exact hold2 q hq
    · show OwnD _ (.sl el) (xs ++ ys) [upd D id _ id] (upd B id _ id)
      rw [upd_at, upd_at]
      refine ⟨some ⟨w.heap.size, 0, none⟩, _, by rw [List.length_append], by rw [List.length_append]; exact hg, .inr ⟨w.heap.size, _, e, bsx ++ bsy, rfl, rfl, Go.heap_alloc_new w.drew _, ?_, by rw [List.length_append, List.length_append, hbl, hbl'], fun q x b hq hqb => ?_⟩⟩
      · simp only [Array.size_append, List.size_toArray, size_zeroCells, hzz, hol, hnl]
        rw [← Nat.add_mul, ← Nat.add_mul]
        congr 1; omega
      · refine hsum _ _ (fun q hq => hold2 q (hfrom q (List.mem_append.2 hq)).2.1) ?_ ?_ q x b hq hqb
        · intro j hj
          simp only [Array.toList_append, List.append_assoc]
          rw [List.getElem?_append_left (by rw [hol]; exact hj)]
        · intro j hj
          simp only [Array.toList_append, List.append_assoc]
          rw [List.getElem?_append_right (by rw [hol]; omega), hol, List.getElem?_append_left (by rw [hnl]; omega)]
          congr 1; omega
end
end Go.Ev
/- The evaluator's soundness: rows that are given away and read still. -/
set_option linter.unusedSectionVars false
set_option linter.unusedVariables false
namespace Go.Ev
open Go Go.RowKit
theorem any_mem (ids : List Nat) (i : Nat) : ids.any (fun j => Nat.beq i j) = decide (i ∈ ids) := by
  rw [Bool.eq_iff_iff, List.any_eq_true]
  simp [Nat.beq_eq]
theorem thaw_hp (S : St) (ids : List Nat) (i : Nat) : (S.thaw ids).hp i = if i ∈ ids then ⟨(S.hp i).ver, none⟩ else ⟨(S.hp i).ver, (S.hp i).blk.map (thawB S ids)⟩ := by
  show (bif ids.any (fun j => Nat.beq i j) then (⟨(S.hp i).ver, none⟩ : Slot) else ⟨(S.hp i).ver, (S.hp i).blk.map (thawB S ids)⟩) = _
  rw [any_mem]
  by_cases e : i ∈ ids <;> simp [e]
theorem thawVs_length (S : St) (ids : List Nat) : ∀ l : List AV, (thawVs S ids l).length = l.length
  | [] => rfl
  | v :: l => by rw [thawVs, List.length_cons, List.length_cons, thawVs_length S ids l]
theorem thawB_alike (S : St) (ids : List Nat) (b : Blk) : b.alike (thawB S ids b) := by
  cases b with
  | box T v => cases v <;> exact rfl
  | row T xs => exact ⟨rfl, rfl⟩
  | deep T xs sv => exact ⟨rfl, rfl, Nat.le_refl _⟩
section
variable {en : Ent} {D : Nat → Value} {B : Nat → List Nat} {S : St} {a : Act} {w : World} {o : Oper}
theorem thaw_blk {ids : List Nat} {i : Nat} {b' : Blk} (h : ((S.thaw ids).hp i).blk = some b') : i ∉ ids ∧ ∃ b, (S.hp i).blk = some b ∧ b' = thawB S ids b := by
  rw [thaw_hp] at h
  by_cases e : i ∈ ids
  · rw [if_pos e] at h; cases h
  · rw [if_neg e] at h
    refine ⟨e, ?_⟩
    cases hb : (S.hp i).blk with
    | none => simp only [hb, Option.map_none] at h; cases h
    | some b => simp only [hb, Option.map_some] at h; injection h with h; exact ⟨b, rfl, h.symm⟩
theorem thaw_some {ids : List Nat} {i : Nat} (h : ((S.thaw ids).hp i).blk.isSome = true) : (S.hp i).blk.isSome = true ∧ i ∉ ids := by
  obtain ⟨b', hb'⟩ := Option.isSome_iff_exists.1 h
  obtain ⟨h1, b, h2, _⟩ := thaw_blk hb'
  exact ⟨by rw [h2]; rfl, h1⟩
theorem thaw_ver {ids : List Nat} (i : Nat) : ((S.thaw ids).hp i).ver = (S.hp i).ver := by
  rw [thaw_hp]
  by_cases e : i ∈ ids <;> simp [e]
theorem thaw_A {ids : List Nat} {k : Nat} (h : (memOf en D B (S.gone ids) w).A k) : (memOf en D B (S.thaw ids) w).A k := by
  refine ⟨h.1, fun ⟨i, h1, h2⟩ => h.2 ⟨i, ?_, h2⟩⟩
  obtain ⟨h3, h4⟩ := thaw_some h1
  rw [gone_hp, if_neg h4]; exact h3
theorem AX_thaw (h : Fits en D B S a w) (ids : List Nat) : ∀ k, AX (memOf en D B S w) ids k → (memOf en D B (S.thaw ids) w).A k := fun k hk => thaw_A (AX_gone h ids k hk)
theorem thaw_le (ids : List Nat) (i : Nat) : SlotLe (memOf en D B S w) (memOf en D B (S.thaw ids) w) i :=
  .inr ⟨thaw_ver i, fun b' hb' => by
    obtain ⟨_, b, h1, h2⟩ := thaw_blk hb'
    exact ⟨b, h1, h2 ▸ thawB_alike S ids b, rfl, ⟨rfl, fun _ => rfl⟩, fun _ _ _ _ _ _ => rfl⟩⟩
theorem thaw_mono (h : Fits en D B S a w) {ids : List Nat} {v : AV} {x : Value} (hv : AVRep (memOf en D B S w) v x) : AVRep (memOf en D B (S.thaw ids) w) v x :=
  AVRep_mono (fun k hk => AX_thaw h ids k (.inl hk)) (fun _ _ => rfl) (thaw_le ids) hv
mutual
theorem thaw_rep (h : Fits en D B S a w) (ids : List Nat) : ∀ {v : AV} {x : Value}, AVRep (memOf en D B S w) v x → AVRep (memOf en D B (S.thaw ids) w) (thawV S ids v) x
  | .own id ver, x, hv => by
    have hk := thaw_mono h (ids := ids) hv
    simp only [thawV]
    cases hm : ids.any (fun j => Nat.beq id j) with
    | false => exact hk
    | true =>
      rw [any_mem, decide_eq_true_eq] at hm
      have key : ∀ (T : Ty) (xs : List T.den), S.row? T id ver = some xs → AVRep (memOf en D B (S.thaw ids) w) (.val (.sl T) xs) x := by
        intro T xs hr
        have hr' : S.toVal (.sl T) (.own id ver) = some xs := hr
        have h1 := toVal_rep (m := memOf en D B S w) h.blk rfl (T := .sl T) rfl hv hr'
        refine ValRep_sub (fun k hk => ?_) h1
        exact AX_thaw h ids k (AX_mono (fun i hi => by
          have hi : i ∈ [id] := hi
          rw [List.mem_singleton] at hi
          rw [hi]; exact hm) k hk)
      simp only [cond_true]
      split
      · rename_i T xs hb
        refine key T xs ?_
        unfold St.row?
        rw [hb]
        simp
      · rename_i T xs sv hb
        refine key T xs ?_
        unfold St.row?
        rw [hb]
        simp
      · exact hk
  | .agg l, _, hv => by
    obtain ⟨cs, e, h1, h2⟩ := hv
    exact ⟨cs, e, h1, thaws_rep h ids h2⟩
  | .bot, _, hv => trivial
  | .val T x, _, hv => thaw_mono h hv
  | .nil, _, hv => hv
  | .sub id ver sv p, _, hv => thaw_mono h hv
  | .tup l, _, hv => thaw_mono h hv
  | .ptr id ver p, _, hv => thaw_mono h hv
  | .pval T x, _, hv => thaw_mono h hv
  | .tab cs, _, hv => thaw_mono h hv
  | .fn f caps, _, hv => thaw_mono h hv
theorem thaws_rep (h : Fits en D B S a w) (ids : List Nat) : ∀ {l : List AV} {vs : List Value}, AVReps (memOf en D B S w) l vs → AVReps (memOf en D B (S.thaw ids) w) (thawVs S ids l) vs
  | [], _, hv => hv
  | v :: l, _, hv => by
    obtain ⟨x, xs, e, h1, h2⟩ := hv
    exact ⟨x, xs, e, thaw_rep h ids h1, thaws_rep h ids h2⟩
end
theorem Fits.thaw (h : Fits en D B S a w) (ids : List Nat) : Fits en D B (S.thaw ids) a w := by
  refine ⟨h.gl, h.gm, h.defers, h.size, h.below, fun i k h1 h2 => h.lt i k (thaw_some h1).1 h2, fun i j k h1 h2 h3 h4 => h.inj i j k (thaw_some h1).1 (thaw_some h2).1 h3 h4, fun i h1 => h.nd i (thaw_some h1).1, fun i b' hb' => ?_, fun t ht => thaw_rep h ids (h.tm t ht), fun g => thaw_mono h (h.glob g), fun p hp => ?_⟩
  · obtain ⟨_, b, hb, rfl⟩ := thaw_blk hb'
    have hr := h.blk i b hb
    have same : BlkRep (memOf en D B (S.thaw ids) w) i b := BlkRep_mono (fun k hk => AX_thaw h ids k (.inl hk)) (fun _ _ => rfl) (thaw_le ids) (fun _ _ => rfl) rfl rfl hr
    cases b with
    | box T v =>
      cases v with
      | agg l =>
        obtain ⟨k, cells, e, h1, h2, h3, h4⟩ := hr
        refine ⟨k, cells, e, h1, h2, h3, ?_⟩
        obtain ⟨l', e1, h5, h6⟩ := h4
        have e1 : (bif Nat.beq l.length T.size && T.isAgg then some l else none) = some l' := e1
        cases hc : (Nat.beq l.length T.size && T.isAgg) with
        | false => rw [hc] at e1; cases e1
        | true =>
          rw [hc] at e1
          injection e1 with e1
          subst e1
          refine ⟨thawVs S ids l, ?_, thaws_rep h ids h5, h6⟩
          show (bif Nat.beq (thawVs S ids l).length T.size && T.isAgg then some (thawVs S ids l) else none) = _
          rw [thawVs_length, hc]; rfl
      | _ => exact same
    | row T xs => exact same
    | deep T xs sv => exact same
  · obtain ⟨k1, k2, k3⟩ := h.keep p hp
    rw [thaw_ver]
    exact ⟨k1, k2, fun e hb => k3 e (thaw_some hb).1⟩
end
end Go.Ev
/- The evaluator's soundness, part 14: append, slices, literals. -/
set_option linter.unusedSectionVars false
namespace Go.Ev
open Go Go.RowKit
section
variable {en : Ent} {D : Nat → Value} {B : Nat → List Nat} {S : St} {a : Act} {w : World} {o : Oper}
theorem elems_move (h : Fits en D B S a w) {el : Ty} {l : List AV} {v : AV} (hv : v ∈ l) : ∀ x cs, Rep w (AX (memOf en D B S w) v.ids) el x cs → Rep w (memOf en D B (S.gone (hasRows el l)) w).A el x cs := by
  intro x cs hr
  unfold hasRows
  cases hs : el.hasSl with
  | false => exact Rep_flat hs hr
  | true =>
    refine Rep_sub (fun k hk => AX_gone h _ k (AX_mono (fun i hi => ?_) k hk)) hr
    simp only [if_true]
    exact List.mem_flatMap.2 ⟨v, hv, hi⟩
theorem free_none {S : St} {n : Nat} (h : S.free n = true) : (S.hp n).blk = none := by
  unfold St.free at h
  split at h
  · assumption
  · cases h
theorem gone_ne {S : St} {ids : List Nat} {id : Nat} (h : id ∉ ids) : (S.gone ids).hp id = S.hp id := by rw [gone_hp, if_neg h]
theorem append_good (hC : Types en.P en.cx.C) (h : Fits en D B S a w) {t t' : Nat} {x y : Operand} {S' : St} {b : Bool} {c : Call} (hd : dAppend en.cx S o.dst t t' x y = some (b, S')) (hb : b = true) (ho : o.op = .call c)
    (hc : c.callee = .builtin .append) (hargs : c.args.toList = [x, y]) (htys : c.argTypes.toList = [t, t']) : Good en o a S' ((execOp a.eval o).run en.P w) := by
  have ex := h.eval x
  have ey := h.eval y
  have hargs' : c.args = #[x, y] := by apply Array.ext'; simpa using hargs
  have htys' : c.argTypes = #[t, t'] := by apply Array.ext'; simpa using htys
  have hrunform : (execOp a.eval o).run en.P w = ((Builtin.append_ #[t, t'] o.type #[a.eval x, a.eval y]).run en.P w).andThen fun v w' => .ok (.value v) w' := by
    simp [execOp, ho, resolve, hc, hargs', htys', invoke, builtin]
  unfold dAppend at hd
  split at hd
  · rename_i el el' hT hT'
    split at hd
    · rename_i hel
      subst hel
      obtain ⟨e, ht, he, hp⟩ := (hC.ok _ _ hT).sl
      obtain ⟨e2, ht', _, _⟩ := (hC.ok _ _ hT').sl
      obtain ⟨i, hi⟩ := he.inf
      cases hdp : (en.cx.dp && el.deepT) with
      | true =>
        rw [hdp] at hd
        simp only [cond_true] at hd
        unfold dAppendD at hd
        split at hd
        · rename_i id2 ver2 hye
          split at hd
          · rename_i ys hys
            obtain ⟨s1, s2⟩ := deep?_some hys
            have hyD : OwnD w (.sl el) ys.1 [a.eval y] (B id2) := by
              have hv : a.eval y = D id2 := own_val (by rw [hye] at ey; exact ey) s1 s2 rfl
              rw [hv]; exact h.blk id2 _ s2
            have hs2 : (S.hp id2).blk.isSome = true := by rw [s2]; rfl
            split at hd
            · rename_i id ver hx
              split at hd
              · rename_i xs hxs
                obtain ⟨r1, r2⟩ := deep?_some hxs
                cases hne : Nat.beq id id2 with
                | true => rw [hne] at hd; cases hd
                | false =>
                  rw [hne] at hd
                  injection hd with hd; injection hd with h1 h2; subst h2
                  rw [hb] at h1
                  simp only [decide_eq_true_eq] at h1
                  have hne : id ≠ id2 := fun e => by rw [e, Nat.beq_refl] at hne; cases hne
                  have hxD : OwnD w (.sl el) xs.1 [a.eval x] (B id) := by
                    have hv : a.eval x = D id := own_val (by rw [hx] at ex; exact ex) r1 r2 rfl
                    rw [hv]; exact h.blk id _ r2
                  obtain ⟨v', w', B', hrun, hsl, hF⟩ := append_coreD h (ty := o.type) ht ht' hi he.one (id := id) (id2 := id2) hxD (.inr ⟨by rw [r2]; rfl, rfl⟩) hyD hs2 hne h1
                  have hP := blk_put hsl hF o.dst
                  have hver : ((S.gone [id2]).hp id).ver = ver := by
                    rw [gone_hp]; split <;> exact r1
                  rw [hver] at hP
                  exact ⟨w', .inl ⟨v', by rw [hrunform, hrun]; rfl, _, _, hP⟩⟩
              · cases hd
            · rename_i hx
              split at hd
              · rename_i d hdst
                cases hf : S.free d with
                | false => rw [hf] at hd; cases hd
                | true =>
                  rw [hf] at hd
                  injection hd with hd; injection hd with h1 h2; subst h2
                  rw [hb] at h1
                  simp only [decide_eq_true_eq] at h1
                  have hfree : (S.hp d).blk = none := free_none hf
                  have hne : d ≠ id2 := fun e => by rw [e, s2] at hfree; cases hfree
                  rw [hx] at ex
                  obtain ⟨ad, hv⟩ := ex
                  have hxD : OwnD w (.sl el) ([] : List el.den) [a.eval x] [] := by
                    rw [hv]; exact ⟨ad, 0, rfl, Nat.le_refl _, .inl ⟨rfl, rfl⟩⟩
                  obtain ⟨v', w', B', hrun, hsl, hF⟩ := append_coreD h (ty := o.type) ht ht' hi he.one (id := d) (id2 := id2) hxD (.inl rfl) hyD hs2 hne (by
                    have : List.length (α := el.den) ys.1 ≤ maxGrow := h1
                    simpa using this)
                  have hver : ((S.gone [id2]).hp d).ver = (S.hp d).ver := by
                    rw [gone_hp]; split <;> rfl
                  have hP := blk_put hsl hF (some d)
                  rw [hver] at hP
                  unfold Good
                  rw [hdst]
                  refine ⟨w', .inl ⟨v', by rw [hrunform, hrun]; rfl, _, _, hP⟩⟩
              · cases hd
            · cases hd
          · cases hd
        · cases hd
      | false =>
      rw [hdp] at hd
      simp only [cond_false] at hd
      split at hd
      · rename_i id ver ys hx hy
        split at hd
        · rename_i xs hxs
          cases hall : (S.eval en.cx y).ids.all (fun j => !Nat.beq j id) with
          | false => rw [hall] at hd; cases hd
          | true =>
            rw [hall] at hd
            injection hd with hd; injection hd with h1 h2; subst h2
            rw [hb] at h1
            simp only [decide_eq_true_eq] at h1
            obtain ⟨r1, r2⟩ := rowF?_some hxs
            have hnotin : id ∉ hasRows el [S.eval en.cx y] := by
              unfold hasRows
              split
              · intro hmem
                simp only [List.flatMap_cons, List.flatMap_nil, List.append_nil] at hmem
                have := List.all_eq_true.1 hall id hmem
                simp [Nat.beq_refl] at this
              · simp
            have hG := h.gone (hasRows el [S.eval en.cx y])
            have hhp : (S.gone (hasRows el [S.eval en.cx y])).hp id = S.hp id := gone_ne hnotin
            rw [hx] at ex
            have hv' : a.eval x = D id := own_val ex r1 r2 rfl
            have hrow : RowRep w (memOf en D B (S.gone (hasRows el [S.eval en.cx y])) w).A (a.eval x) el xs (B id) := by
              rw [hv']
              exact hG.blk id (.row el xs) (by rw [hhp]; exact r2)
            obtain ⟨v', w', B', hrun, hsl, hF⟩ := append_core hG (ty := o.type) ht ht' hi he.one (id := id) hrow (.inr ⟨by rw [hhp, r2]; rfl, rfl⟩) (h.slice ey hy)
              (elems_move h (el := el) (l := [S.eval en.cx y]) (v := S.eval en.cx y) (by simp)) h1
            have hP := row_put hsl hF o.dst
            rw [hhp, r1] at hP
            exact ⟨w', .inl ⟨v', by rw [hrunform, hrun]; rfl, _, _, hP⟩⟩
        · cases hd
      · rename_i ys hx hy
        split at hd
        · rename_i d hdst
          cases hf : S.free d with
          | false => rw [hf] at hd; cases hd
          | true =>
            rw [hf] at hd
            injection hd with hd; injection hd with h1 h2; subst h2
            rw [hb] at h1
            simp only [decide_eq_true_eq] at h1
            have hG := h.gone (hasRows el [S.eval en.cx y])
            rw [hx] at ex
            obtain ⟨ad, hv⟩ := ex
            have hrow : RowRep w (memOf en D B (S.gone (hasRows el [S.eval en.cx y])) w).A (a.eval x) el [] [] := ⟨ad, 0, hv, Nat.le_refl _, .inl ⟨rfl, rfl⟩⟩
            obtain ⟨v', w', B', hrun, hsl, hF⟩ := append_core hG (ty := o.type) ht ht' hi he.one (id := d) hrow (.inl rfl) (h.slice ey hy)
              (elems_move h (el := el) (l := [S.eval en.cx y]) (v := S.eval en.cx y) (by simp)) (by
                have : List.length (α := el.den) ys ≤ maxGrow := h1
                simpa using this)
            have hver : ((S.gone (hasRows el [S.eval en.cx y])).hp d).ver = (S.hp d).ver := by
              rw [gone_hp]; split <;> rfl
            have := row_put hsl hF (some d)
            rw [hver] at this
            unfold Good
            rw [hdst]
            refine ⟨w', .inl ⟨v', by rw [hrunform, hrun]; rfl, _, _, this⟩⟩
        · cases hd
      · cases hd
    · cases hd
  · cases hd

/-! ### x[lo:hi] -/
def BoundIs (a : Act) (lo : Option Operand) (l : Option Int) : Prop := match lo with
  | none => l = none
  | some x => ∃ k n, l = some n ∧ a.eval x = .int k n
theorem bound_run (h : Fits en D B S a w) {lo : Option Operand} {l : Option Int} (hl : S.bound en.cx lo = some l) : BoundIs a lo l := by
  cases lo with
  | none => injection hl with hl; exact hl.symm
  | some x =>
    have ex := h.eval x
    simp only [St.bound] at hl
    split at hl
    · rename_i k n hx
      injection hl with hl
      rw [hx] at ex
      exact ⟨k, n, hl.symm, val_int ex⟩
    · cases hl
def BoundV (lo : Option Value) (l : Option Int) : Prop := match lo with
  | none => l = none
  | some v => ∃ k n, l = some n ∧ v = .int k n
theorem BoundIs.v {a : Act} {lo : Option Operand} {l : Option Int} (h : BoundIs a lo l) : BoundV (lo.map a.eval) l := by
  cases lo with
  | none => exact h
  | some x => exact h
theorem cut_run {P : Program} {w : World} (isSlice : Bool) (len cap : Nat) (hlc : len ≤ cap) {lo hi : Option Value} {l u : Option Int} (hlo : BoundV lo l) (hhi : BoundV hi u) (hok : (cutB len l u).1 = true) :
    (Instr.sliceBounds isSlice len cap lo hi none).run P w = .ok ((cutB len l u).2.1, (cutB len l u).2.2, cap) w ∧ (cutB len l u).2.1 ≤ (cutB len l u).2.2 ∧ (cutB len l u).2.2 ≤ len := by
  cases lo with
  | none =>
    cases hi with
    | none =>
      subst hlo; subst hhi
      exact ⟨by simp [Instr.sliceBounds, cutB], by simp [cutB], by simp [cutB]⟩
    | some v =>
      obtain ⟨k, n, rfl, rfl⟩ := hhi
      subst hlo
      simp only [cutB, Bool.and_eq_true, decide_eq_true_eq] at hok
      have h1 : (0 : Int) ≤ n ∧ n ≤ cap := ⟨hok.1, by omega⟩
      refine ⟨?_, by simp [cutB], by simp only [cutB]; omega⟩
      simp [Instr.sliceBounds, cutB, Instr.sliceBound, asIntOf, h1]
  | some v =>
    obtain ⟨k, n, rfl, rfl⟩ := hlo
    cases hi with
    | none =>
      subst hhi
      simp only [cutB, Bool.and_eq_true, decide_eq_true_eq] at hok
      have h1 : (0 : Int) ≤ n ∧ n ≤ len := hok
      refine ⟨?_, by simp only [cutB]; omega, by simp [cutB]⟩
      simp [Instr.sliceBounds, cutB, Instr.sliceBound, asIntOf, h1]
    | some v =>
      obtain ⟨k', n', rfl, rfl⟩ := hhi
      simp only [cutB, Bool.and_eq_true, decide_eq_true_eq] at hok
      have h1 : (0 : Int) ≤ n' ∧ n' ≤ cap := ⟨by omega, by omega⟩
      have h2 : (0 : Int) ≤ n ∧ n ≤ (n'.toNat : Int) := ⟨by omega, by omega⟩
      refine ⟨?_, by simp only [cutB]; omega, by simp only [cutB]; omega⟩
      simp only [Instr.sliceBounds, cutB, Instr.sliceBound, asIntOf, Sem.run_bind, Sem.run_pure, Result.andThen_ok]
      rw [if_pos h1]
      simp only [Sem.run_pure, Result.andThen_ok]
      simp only [Option.isSome_none, Bool.false_eq_true, if_false]
      rw [if_pos h2]
      simp only [Sem.run_pure, Result.andThen_ok]
end
end Go.Ev
/- The evaluator's soundness, part 15: slices. -/
set_option linter.unusedSectionVars false
namespace Go.Ev
open Go Go.RowKit
theorem Rep_cut {w : World} {A : Nat → Prop} {b : Ty} {xs : List b.den} {ad : Option Addr} {c l h : Nat} (hr : Rep w A (.sl b) xs [.slice ad xs.length c]) (h1 : l ≤ h) (h2 : h ≤ xs.length) :
    Rep w A (.sl b) ((xs.take h).drop l) [.slice (if c = l then ad else ad.map (·.add (l * b.size))) (h - l) (c - l)] := by
  obtain ⟨ad', c', e, hl, hr⟩ := hr
  injection e with e; injection e with e1 e2 e3
  subst e1; subst e3
  have hlen : ((xs.take h).drop l).length = h - l := by rw [List.length_drop, List.length_take]; omega
  have hl' : xs.length ≤ c := hl
  refine ⟨_, c - l, by rw [hlen], by show ((xs.take h).drop l).length ≤ c - l; rw [hlen]; omega, fun i x hi => ?_⟩
  have hil : i < h - l := by rw [← hlen]; exact (List.getElem?_eq_some_iff.1 hi).1
  have hi' : nth xs (l + i) = some x := by
    unfold nth at *
    rw [List.getElem?_drop, List.getElem?_take, if_pos (by omega)] at hi
    exact hi
  obtain ⟨p, cx, g1, g2, g3, g4, g5⟩ := hr (l + i) x hi'
  have hne : c ≠ l := by omega
  refine ⟨p.add (l * b.size), cx, by rw [if_neg hne, g1]; rfl, ?_, ?_, g4, fun j u hu => ?_⟩
  · rw [add_plain' g3]; exact g2
  · rw [add_plain' g3]
  · have := g5 j u hu
    rw [add_plain' g3]
    simp only
    rw [show p.off + l * b.size + i * b.size + j = p.off + (l + i) * b.size + j by rw [Nat.add_mul]; omega]
    exact this
section
variable {en : Ent} {D : Nat → Value} {B : Nat → List Nat} {S : St} {a : Act} {w : World} {o : Oper}
theorem sliceVal_good (h : Fits en D B S a w) {t : Nat} {x : Operand} {lo hi : Option Operand} {l u : Option Int} {el : Ty} {e : Nat} (ht : en.P.underlying t = some (.slice e)) (he : TyF en.P el e) (hl : BoundIs a lo l) (hu : BoundIs a hi u)
    {S' : St} {b : Bool} (hd : dSliceVal S o.dst el (S.eval en.cx x) l u = some (b, S')) (hb : b = true) (ho : o.op = .slice t x lo hi none) : Good en o a S' ((execOp a.eval o).run en.P w) := by
  unfold dSliceVal at hd
  split at hd
  · rename_i xs hxs
    injection hd with hd; injection hd with h1 h2; subst h2
    rw [hb] at h1
    have ex := h.eval x
    have hrep := h.slice ex hxs
    have hrep' := hrep
    obtain ⟨ad, c, e1, hlc, _⟩ := hrep'
    injection e1 with e1
    rw [e1] at hrep
    obtain ⟨hrun, k1, k2⟩ := cut_run (P := en.P) (w := w) true (List.length (α := el.den) xs) c hlc hl.v hu.v h1
    have hnew := Rep_cut hrep k1 k2
    refine ⟨w, .inl ⟨_, ?_, D, B, (h.gone (S.eval en.cx x).ids).put o.dst (v := .val (.sl el) _) (x := .slice (if c = (cutB (List.length (α := el.den) xs) l u).2.1 then ad else ad.map (·.add ((cutB (List.length (α := el.den) xs) l u).2.1 * el.size))) ((cutB (List.length (α := el.den) xs) l u).2.2 - (cutB (List.length (α := el.den) xs) l u).2.1) (c - (cutB (List.length (α := el.den) xs) l u).2.1)) ?_⟩⟩
    · simp only [execOp, ho, Instr.sliceAt, Instr.slice, e1, Sem.run_bind, run_underlying ht, Result.andThen_ok, Option.map_none, hrun, he.sizeOf, Sem.run_pure]
    · exact Rep_sub (AX_gone h _) hnew
  · cases hd
theorem sliceOwn_good (h : Fits en D B S a w) {t : Nat} {x : Operand} {lo hi : Option Operand} {n : Int} {el : Ty} {e : Nat} (ht : en.P.underlying t = some (.slice e)) (he : TyF en.P el e) (hl : BoundIs a lo none) (hu : BoundIs a hi (some n)) {id ver : Nat}
    (hx : S.eval en.cx x = .own id ver) {S' : St} {b : Bool} (hd : dSliceOwn S o.dst el id ver n = some (b, S')) (hb : b = true) (ho : o.op = .slice t x lo hi none) : Good en o a S' ((execOp a.eval o).run en.P w) := by
  unfold dSliceOwn at hd
  split at hd
  · rename_i xs hxs
    injection hd with hd; injection hd with h1 h2; subst h2
    rw [hb] at h1
    simp only [Bool.and_eq_true, decide_eq_true_eq] at h1
    have ex := h.eval x
    rw [hx] at ex
    obtain ⟨r1, r2⟩ := rowF?_some hxs
    have hv : a.eval x = D id := own_val ex r1 r2 rfl
    have hrow : RowRep w (memOf en D B S w).A (D id) el xs (B id) := h.blk id _ r2
    obtain ⟨ad, c, q1, q2, q3⟩ := hrow
    have hcut : (cutB xs.length none (some n)).1 = true := by simp only [cutB, Bool.and_eq_true, decide_eq_true_eq]; exact h1
    obtain ⟨hrun, k1, k2⟩ := cut_run (P := en.P) (w := w) true xs.length c q2 hl.v hu.v hcut
    have hn : n.toNat ≤ xs.length := k2
    have had : (if c = 0 then ad else ad.map (·.add (0 * el.size))) = ad := by
      split
      · rfl
      · cases ad with
        | none => rfl
        | some p => simp [Addr.add]
    have hF : Fits en (upd D id (.slice ad n.toNat c)) (upd B id (B id)) (S.fresh id (.row el (xs.take n.toNat))) a w := by
      refine h.renew id _ _ (B id) (Below.refl _ _).m (h.nd id (by rw [r2]; rfl)) (fun k hk => ?_) (fun _ _ _ => rfl) (fun hA hw hs => ?_)
      · have := h.lt id k (by rw [r2]; rfl) hk
        exact ⟨this.1, this.2, .inr ⟨by rw [r2]; rfl, hk⟩⟩
      · have hlen : (xs.take n.toNat).length = n.toNat := by rw [List.length_take]; omega
        refine ⟨ad, c, by rw [hlen]; exact upd_at _ _ _, by rw [hlen]; omega, ?_⟩
        rcases q3 with ⟨q3, q4⟩ | ⟨k, cells, ee, q3, q4, q5, q6, q7⟩
        · exact .inl ⟨(upd_at B id (B id)).trans q3, q4⟩
        · refine .inr ⟨k, cells, ee, (upd_at B id (B id)).trans q3, q4, q5, q6, fun i y hi => ?_⟩
          refine Rep_mono hA hw (q7 i y ?_)
          unfold nth at *
          rw [List.getElem?_take] at hi
          split at hi
          · exact hi
          · cases hi
    have hP := row_put ⟨_, _, _, rfl⟩ hF o.dst
    rw [r1] at hP
    refine ⟨w, .inl ⟨.slice ad n.toNat c, ?_, _, _, hP⟩⟩
    simp only [execOp, ho, Instr.sliceAt, Instr.slice, hv, q1, Sem.run_bind, run_underlying ht, Result.andThen_ok, Option.map_none, hrun, he.sizeOf, Sem.run_pure]
    have e0 : (cutB xs.length none (some n)).2.1 = 0 := rfl
    have e1 : (cutB xs.length none (some n)).2.2 = n.toNat := rfl
    rw [e0, e1]
    simp only [Nat.sub_zero]
    rw [had]
  · cases hd
theorem slice_good (hC : Types en.P en.cx.C) (h : Fits en D B S a w) {t : Nat} {x : Operand} {lo hi mx : Option Operand} {S' : St} {b : Bool} (hd : dSlice en.cx S o.dst t x lo hi mx = some (b, S')) (hb : b = true) (ho : o.op = .slice t x lo hi mx) : Good en o a S' ((execOp a.eval o).run en.P w) := by
  have ex := h.eval x
  unfold dSlice at hd
  split at hd
  · rename_i l hl
    have hl := bound_run h hl
    split at hd
    · rename_i u hu
      have hu := bound_run h hu
      split at hd
      · rename_i hT
        have ht := (hC.ok _ _ hT).str
        split at hd
        · rename_i s hx
          injection hd with hd; injection hd with h1 h2; subst h2
          rw [hb] at h1
          rw [hx] at ex
          have ex := val_str ex
          obtain ⟨hrun, k1, k2⟩ := cut_run (P := en.P) (w := w) false s.size s.size (Nat.le_refl _) hl.v hu.v h1
          refine good_put h (v := .string (s.extract (cutB s.size l u).2.1 (cutB s.size l u).2.2)) ?_ rfl
          simp only [execOp, ho, Instr.sliceAt, Instr.slice, ex, Sem.run_bind, run_underlying ht, Result.andThen_ok, Option.map_none, Option.isSome_none, Bool.false_eq_true, if_false, hrun, Sem.run_pure]
        · cases hd
      · rename_i el hT
        obtain ⟨e, ht, he, hp⟩ := (hC.ok _ _ hT).sl
        split at hd
        · split at hd
          · rename_i id ver hx
            split at hd
            · cases hdp : isDeep S id ver with
              | true =>
                rw [hdp] at hd
                simp only [cond_true] at hd
                rw [← hx] at hd
                exact sliceVal_good h ht he hl hu hd hb ho
              | false =>
                rw [hdp] at hd
                simp only [cond_false] at hd
                exact sliceOwn_good h ht he hl hu hx hd hb ho
            · rw [← hx] at hd; exact sliceVal_good h ht he hl hu hd hb ho
          · rename_i U xs0 hx
            rw [← hx] at hd
            exact sliceVal_good h ht he hl hu hd hb ho
          · cases hd
        · rename_i m
          split at hd
          · rename_i n hh hxs hm _ _
            injection hd with hd; injection hd with h1 h2; subst h2
            rw [hb] at h1
            simp only [Bool.and_eq_true, decide_eq_true_eq] at h1
            obtain ⟨h0, h00⟩ := h1
            subst h0
            have em := h.eval m
            rw [hm] at em
            have em := val_int em
            have h00 : (n : Int) = 0 := h00
            rw [h00] at em
            obtain ⟨ad, c, e1, hlc, _⟩ := h.slice ex hxs
            injection e1 with e1
            refine good_put h (v := .slice ad 0 0) ?_ ⟨ad, rfl⟩
            cases lo with
            | some lo => obtain ⟨k1, n1, hh, _⟩ := hl; cases hh
            | none =>
              cases hi with
              | none => cases hu
              | some hi =>
                obtain ⟨k1, n1, hh, hv1⟩ := hu
                injection hh with hh; subst hh
                simp [execOp, ho, Instr.sliceAt, Instr.slice, e1, run_underlying ht, Instr.sliceBounds, Instr.sliceBound, asIntOf, em, hv1, he.sizeOf]
          · cases hd
      · cases hd
    · cases hd
  · cases hd
end
end Go.Ev
/- The evaluator's soundness, part 16: literals. -/
set_option linter.unusedSectionVars false
namespace Go.Ev
open Go Go.RowKit
theorem foldl_splice : ∀ (u : List Value) (o k : Nat) (cells : Array Value), o + k + u.length ≤ cells.size →
    ((u.zipIdx k).foldl (fun cs (p : Value × Nat) => cs.setIfInBounds (o + p.2) p.1) cells).toList = splice cells.toList (o + k) u
  | [], o, k, cells, _ => by simp [splice]
  | v :: u, o, k, cells, h => by
    rw [List.zipIdx_cons, List.foldl_cons]
    simp only [List.length_cons] at h
    rw [foldl_splice u o (k + 1) _ (by simp; omega)]
    simp only [Array.toList_setIfInBounds]
    apply ext_get
    intro j
    rw [splice_get (by simp; omega), splice_get (by simp; omega)]
    simp only [List.length_cons]
    by_cases h1 : o + (k + 1) ≤ j ∧ j < o + (k + 1) + u.length
    · rw [if_pos h1, if_pos (by omega)]
      rw [show j - (o + k) = (j - (o + (k + 1))) + 1 by omega, List.getElem?_cons_succ]
    · rw [if_neg h1]
      by_cases h2 : j = o + k
      · subst h2
        rw [if_pos (by omega), List.getElem?_set_self (by simp; omega), Nat.sub_self, List.getElem?_cons_zero]
      · rw [if_neg (by omega), List.getElem?_set_ne (by omega)]
theorem fill_step {place : Nat → Option (Nat × Nat)} {cells : Array Value} {i : Nat} {v : Value} {rest : List (Nat × Value)} {o n : Nat} (hp : place i = some (o, n)) (hv : v.cells.size = n) (hn : o + n ≤ cells.size) :
    Instr.fill place cells ((i, v) :: rest) = Instr.fill place (splice cells.toList o v.cells.toList).toArray rest := by
  simp only [Instr.fill, hp]
  rw [if_neg (by simp [hv]; omega)]
  congr 1
  apply Array.ext'
  have := foldl_splice v.cells.toList o 0 cells (by rw [Array.length_toList, hv]; omega)
  simp only [Nat.add_zero] at this
  rw [← this]
  rw [← Array.foldl_toList, Array.toList_zipIdx]
section
variable {en : Ent} {D : Nat → Value} {B : Nat → List Nat} {S : St} {a : Act} {w : World} {o : Oper}
theorem mapM_places {P : Program} {w : World} : ∀ (fs : List Field), (∀ f : Field, f ∈ fs → ∃ n, (Go.sizeOf f.type).run P w = .ok n w) →
    ∃ ps : List (Nat × Nat), (fs.mapM fun (f : Field) => (do pure (f.offset, ← Go.sizeOf f.type) : Sem (Nat × Nat))).run P w = .ok ps w ∧ ∀ (j : Nat) (f : Field), fs[j]? = some f → ∃ n, (Go.sizeOf f.type).run P w = .ok n w ∧ ps[j]? = some (f.offset, n)
  | [], _ => ⟨[], rfl, fun j f hf => by simp at hf⟩
  | f :: fs, h => by
    obtain ⟨n, hn⟩ := h f (by simp)
    obtain ⟨ps, h1, h2⟩ := mapM_places fs (fun g hg => h g (by simp [hg]))
    refine ⟨(f.offset, n) :: ps, ?_, fun j g hg => ?_⟩
    · rw [List.mapM_cons]
      simp only [Sem.run_bind, hn, Result.andThen_ok, Sem.run_pure, h1]
    · cases j with
      | zero => simp at hg; subst hg; exact ⟨n, hn, rfl⟩
      | succ j => simp at hg; obtain ⟨m, k1, k2⟩ := h2 j g hg; exact ⟨m, k1, by simpa using k2⟩
/-- A struct's literal: the cells that are filled in. -/
theorem setParts_rep (h : Fits en D B S a w) {T : Ty} {place : Nat → Option (Nat × Nat)} (hpl : ∀ j o U, T.fld j = some (o, U) → place j = some (o, U.size) ∧ U.isPair = false) :
    ∀ (parts : List (Nat × Operand)) (l l' : List AV) (cells : Array Value), AVReps (memOf en D B S w) l cells.toList → (∀ u ∈ cells.toList, u.oneCell' = true) → cells.size = T.size →
      S.setParts T (parts.map fun p => (p.1, S.eval en.cx p.2)) l = some l' →
      ∃ cells', Instr.fill place cells (parts.map fun p => (p.1, a.eval p.2)) = some cells' ∧ AVReps (memOf en D B S w) l' cells'.toList ∧ (∀ u ∈ cells'.toList, u.oneCell' = true) ∧ cells'.size = T.size
  | [], l, l', cells, h1, h2, h3, hs => by
    injection hs with hs; subst hs
    exact ⟨cells, rfl, h1, h2, h3⟩
  | (j, x) :: parts, l, l', cells, h1, h2, h3, hs => by
    simp only [List.map_cons, St.setParts] at hs
    split at hs
    · rename_i o1 U hf
      split at hs
      · rename_i u hu
        obtain ⟨hp, hpair⟩ := hpl j o1 U hf
        have hbox := BoxRep_of hpair (h.eval x) hu
        obtain ⟨u', e1, k1, k2⟩ := BoxRep_cells hbox
        rw [hu] at e1; injection e1 with e1; subst e1
        have hl := BoxRep_length hbox
        have hsz := fld_size hf
        have hvs : (a.eval x).cells.size = U.size := by rw [← Array.length_toList]; exact hl
        rw [List.map_cons, fill_step hp hvs (by omega)]
        have hul := AVReps_length k1
        refine setParts_rep h hpl parts _ l' _ ?_ ?_ ?_ hs
        · show AVReps _ (putCells l o1 u) (splice cells.toList o1 (a.eval x).cells.toList)
          unfold putCells splice
          rw [hul]
          exact AVReps_append (AVReps_append (AVReps_take _ h1) k1) (AVReps_drop _ h1)
        · intro v hv
          have hv : v ∈ splice cells.toList o1 (a.eval x).cells.toList := hv
          unfold splice at hv
          rcases List.mem_append.1 hv with hv | hv
          · rcases List.mem_append.1 hv with hv | hv
            · exact h2 v (List.mem_of_mem_take hv)
            · exact k2 v hv
          · exact h2 v (List.mem_of_mem_drop hv)
        · simp only [List.size_toArray]
          rw [splice_length (by rw [hl, Array.length_toList]; omega), Array.length_toList, h3]
      · cases hs
    · cases hs
/-- The elements of a row's literal. -/
theorem elems_rep (h : Fits en D B S a w) {el : Ty} (hp : el.isPair = false) {place : Nat → Option (Nat × Nat)} (hpl : ∀ j, place j = some (j * el.size, el.size)) {A' : Nat → Prop} (n : Nat) :
    ∀ (parts : List (Nat × Operand)) (xs xs' : List el.den) (cells : Array Value), xs.length = n → cells.size = n * el.size → (∀ i x, nth xs i = some x → Rep w A' el x (seg cells.toList i el.size)) →
      (∀ p ∈ parts, ∀ x cs, Rep w (AX (memOf en D B S w) (S.eval en.cx p.2).ids) el x cs → Rep w A' el x cs) →
      S.elems el (parts.map fun p => (p.1, S.eval en.cx p.2)) xs = some xs' →
      ∃ cells', Instr.fill place cells (parts.map fun p => (p.1, a.eval p.2)) = some cells' ∧ xs'.length = n ∧ cells'.size = n * el.size ∧ ∀ i x, nth xs' i = some x → Rep w A' el x (seg cells'.toList i el.size)
  | [], xs, xs', cells, h1, h2, h3, _, hs => by
    injection hs with hs; subst hs
    exact ⟨cells, rfl, h1, h2, h3⟩
  | (j, x) :: parts, xs, xs', cells, h1, h2, h3, h4, hs => by
    simp only [List.map_cons, St.elems] at hs
    split at hs
    · rename_i y hy
      cases hj : Nat.blt j xs.length with
      | false => rw [hj] at hs; cases hs
      | true =>
        rw [hj] at hs
        simp only [cond_true] at hs
        have hjl : j < n := by rw [← h1]; simpa [Nat.blt_eq] using hj
        have hrep := ValRep_cells hp (toVal_rep (m := memOf en D B S w) h.blk rfl hp (h.eval x) hy)
        have hl := Rep_len hrep
        have hvs : (a.eval x).cells.size = el.size := by rw [← Array.length_toList]; exact hl
        have hmul : j * el.size + el.size ≤ n * el.size := by
          have := Nat.mul_le_mul_right el.size hjl
          rwa [Nat.succ_mul] at this
        have hcl : cells.toList.length = n * el.size := by rw [Array.length_toList]; exact h2
        rw [List.map_cons, fill_step (hpl j) hvs (by omega)]
        refine elems_rep h hp hpl n parts (xs.set j y) xs' _ (by rw [List.length_set]; exact h1) ?_ ?_ (fun p hp' => h4 p (by simp [hp'])) hs
        · simp only [List.size_toArray]
          rw [splice_length (by rw [hl]; omega), hcl]
        · intro i z hi
          show Rep w A' el z (seg (splice cells.toList (j * el.size) (a.eval x).cells.toList) i el.size)
          rcases nth_set xs j i y z hi with ⟨rfl, rfl, hlt⟩ | ⟨hne, hi'⟩
          · rw [seg_splice_same hcl hjl hl]
            exact h4 (i, x) (by simp) _ _ hrep
          · have hil : i < n := by
              rw [← h1]; exact (List.getElem?_eq_some_iff.1 hi').1
            rw [seg_splice_ne hcl hjl hil hl hne]
            exact h3 i z hi'
    · cases hs
theorem allVal_rep (h : Fits en D B S a w) {T : Ty} {l : List AV} {cs : Array Value} (hr : AVReps (memOf en D B S w) l cs.toList) (h1 : ∀ u ∈ cs.toList, u.oneCell' = true) : AVRep (memOf en D B S w) (allVal S T l) (.agg cs) := by
  have hagg : AVRep (memOf en D B S w) (.agg l) (.agg cs) := ⟨cs, rfl, h1, hr⟩
  unfold allVal
  cases hb : l.all (fun v => match v with
    | .val _ _ => true
    | _ => false) with
  | false => exact hagg
  | true =>
    simp only [cond_true]
    split
    · rename_i x hx
      obtain ⟨c0, c1, e, k1, k2, _⟩ := implode_rep (m := memOf en D B S w) h.blk rfl hr hx
      have k2' : c1 = [] := k2
      subst k2'
      rw [List.append_nil] at e
      subst e
      refine ⟨cs, rfl, ?_⟩
      have hids : idsOf l = [] := by
        unfold idsOf
        rw [List.flatMap_eq_nil_iff]
        intro v hv
        have := List.all_eq_true.1 hb v hv
        cases v <;> simp at this <;> rfl
      rw [hids] at k1
      refine Rep_sub (fun k hk => ?_) k1
      rcases hk with hk | ⟨id, hk, _⟩
      · exact hk
      · cases hk
    · exact hagg
theorem build_good (hC : Types en.P en.cx.C) (h : Fits en D B S a w) {t : Nat} {parts : Array (Nat × Operand)} {S' : St} {b : Bool} (hd : dBuild en.cx S o.dst t parts = some (b, S')) (ho : o.op = .build t parts) : Good en o a S' ((execOp a.eval o).run en.P w) := by
  unfold dBuild at hd
  split at hd
  · rename_i T hT
    split at hd
    · rename_i l hl
      split at hd
      · rename_i l' hl'
        injection hd with hd; injection hd with h1 h2; subst h2
        have hT' := hC.ok _ _ hT
        obtain ⟨fs, hu, hfs⟩ := hT'.st
        have hz := hT'.zero w
        have hzb := zeroAV_box (memOf en D B S w) hT'
        obtain ⟨l0, e0, k1, k2⟩ := BoxRep_cells hzb
        rw [hl] at e0; injection e0 with e0; subst e0
        have hcells : (cellsVal (.st T) (zc (.st T))).cells = (zc (.st T)).toArray := by
          apply Array.ext'
          rw [cellsVal_cells (zc_one _) (zc_length _) hT'.one]
        obtain ⟨ps, m1, m2⟩ := mapM_places (P := en.P) (w := w) fs.toList (fun f hf => by
          obtain ⟨j, hj⟩ := List.mem_iff_getElem?.1 hf
          obtain ⟨q, hq⟩ := hT'.st_all hu (j := j) (g := f) (by simpa using hj)
          obtain ⟨g, g1, g2, g3, g4⟩ := hfs j q.1 q.2 hq
          have : g = f := by
            have hj' : fs[j]? = some f := by simpa using hj
            rw [g1] at hj'; exact Option.some.inj hj'
          subst this
          exact ⟨_, g3.sizeOf w⟩)
        obtain ⟨cells', f1, f2, f3, f4⟩ := setParts_rep h (T := T) (place := fun i => ps.toArray[i]?) (fun j o1 U hf => by
          obtain ⟨g, g1, g2, g3, g4⟩ := hfs j o1 U hf
          obtain ⟨n, n1, n2⟩ := m2 j g (by simpa using g1)
          rw [g3.sizeOf w] at n1
          injection n1 with n1
          subst n1
          exact ⟨by rw [← g2]; simpa using n2, g4⟩) parts.toList l l' (zc (.st T)).toArray (by simpa using k1) (by simpa using k2) (by simp; exact zc_length (.st T)) hl'
        refine good_put h (v := .agg cells') ?_ (allVal_rep h f2 f3)
        have hmap : (parts.map fun (i, x) => (i, a.eval x)).toList = parts.toList.map fun p => (p.1, a.eval p.2) := by simp
        simp only [execOp, ho, Instr.build, Sem.run_bind, hz, Result.andThen_ok, hcells, run_underlying hu]
        rw [Array.mapM_eq_mapM_toList]
        simp only [Sem.run_map, m1, Result.andThen_ok]
        rw [hmap, f1]
        rfl
      · cases hd
    · cases hd
  · rename_i n el hT
    split at hd
    · rename_i xs hxs
      cases hs : el.hasSl with
      | true => rw [hs] at hd; cases hd
      | false =>
        rw [hs] at hd
        injection hd with hd; injection hd with h1 h2; subst h2
        have hT' := hC.ok _ _ hT
        obtain ⟨e, hu, he, hp⟩ := hT'.arr
        have hz := hT'.zero w
        have hcells : (cellsVal (.arr n el) (zc (.arr n el))).cells = (zc (.arr n el)).toArray := by
          apply Array.ext'
          rw [cellsVal_cells (zc_one _) (zc_length _) hT'.one]
        obtain ⟨z1, z2, z3⟩ := zc_rep (w := w) (A := (memOf en D B S w).A) (.arr n el)
        obtain ⟨cells', f1, f2, f3, f4⟩ := elems_rep h hp (place := fun i => some (i * el.size, el.size)) (fun _ => rfl) (A' := (memOf en D B S w).A) n parts.toList (List.replicate n el.zero) xs (zc (.arr n el)).toArray List.length_replicate
          (by simp; exact zc_length (.arr n el)) (fun i x hi => by simpa using z3 i x hi) (fun p hp' x cs hr => Rep_flat hs hr) hxs
        have hmap : (parts.map fun (i, x) => (i, a.eval x)).toList = parts.toList.map fun p => (p.1, a.eval p.2) := by simp
        refine good_put h (v := .agg cells') ?_ ⟨cells', rfl, f2, by rw [Array.length_toList]; exact f3, f4⟩
        simp only [execOp, ho, Instr.build, Sem.run_bind, hz, Result.andThen_ok, hcells, run_underlying hu, he.sizeOf]
        rw [hmap, f1]
        rfl
    · cases hd
  · cases hd
end
end Go.Ev
/- The evaluator's soundness, part 17: a row's literal; all operations that call nothing. -/
set_option linter.unusedSectionVars false
namespace Go.Ev
open Go Go.RowKit
section
variable {en : Ent} {D : Nat → Value} {B : Nat → List Nat} {S : St} {a : Act} {w : World} {o : Oper}
theorem nth_replicate {α : Type} {n i : Nat} {z x : α} (h : nth (List.replicate n z) i = some x) : i < n ∧ x = z := by
  unfold nth at h
  have hl : i < n := by
    have := (List.getElem?_eq_some_iff.1 h).1
    rwa [List.length_replicate] at this
  refine ⟨hl, ?_⟩
  have e1 : (List.replicate n z)[i]? = some z := by simp [hl]
  rw [e1] at h; exact (Option.some.inj h).symm
theorem mem_flatten_set {q : Nat} {b : List Nat} : ∀ {bss : List (List Nat)} {j : Nat}, q ∈ (bss.set j b).flatten → q ∈ b ∨ q ∈ bss.flatten
  | [], _, h => by simp at h
  | c :: l, 0, h => by
    simp only [List.set_cons_zero, List.flatten_cons, List.mem_append] at h ⊢
    rcases h with h | h
    · exact .inl h
    · exact .inr (.inr h)
  | c :: l, j + 1, h => by
    simp only [List.set_cons_succ, List.flatten_cons, List.mem_append] at h ⊢
    rcases h with h | h
    · exact .inr (.inl h)
    · rcases mem_flatten_set h with h | h
      · exact .inl h
      · exact .inr (.inr h)
theorem nodup_flatten_set {b : List Nat} (hb : b.Nodup) : ∀ {bss : List (List Nat)} {j : Nat}, bss.flatten.Nodup → (∀ q, q ∈ b → q ∉ bss.flatten) → (bss.set j b).flatten.Nodup
  | [], _, _, _ => by simp
  | c :: l, 0, h, hd => by
    simp only [List.set_cons_zero, List.flatten_cons] at h ⊢
    rw [List.nodup_append] at h ⊢
    refine ⟨hb, h.2.1, fun x hx y hy e => ?_⟩
    subst e
    exact hd x hx (by rw [List.flatten_cons]; exact List.mem_append_right _ hy)
  | c :: l, j + 1, h, hd => by
    simp only [List.set_cons_succ, List.flatten_cons] at h ⊢
    rw [List.nodup_append] at h ⊢
    refine ⟨h.1, nodup_flatten_set hb h.2.1 (fun q hq hm => hd q hq (by rw [List.flatten_cons]; exact List.mem_append_right _ hm)), fun x hx y hy e => ?_⟩
    subst e
    rcases mem_flatten_set hy with hy | hy
    · exact hd x hy (by rw [List.flatten_cons]; exact List.mem_append_left _ hx)
    · exact h.2.2 x hx x hy rfl
theorem elems_ownD (h : Fits en D B S a w) {el : Ty} (hp : el.isPair = false) {place : Nat → Option (Nat × Nat)} (hpl : ∀ j, place j = some (j * el.size, el.size)) (n : Nat) :
    ∀ (parts : List (Nat × Operand)) (xs xs' : List el.den) (cells : Array Value) (bss : List (List Nat)), xs.length = n → cells.size = n * el.size → bss.length = n →
      (∀ i x b, nth xs i = some x → nth bss i = some b → OwnD w el x (seg cells.toList i el.size) b) → bss.flatten.Nodup →
      (∀ p ∈ parts, S.plainOwn (S.eval en.cx p.2) = true) → (parts.flatMap fun p => (S.eval en.cx p.2).ids).Nodup → (∀ q, q ∈ bss.flatten → ∀ i, i ∈ (parts.flatMap fun p => (S.eval en.cx p.2).ids) → q ∉ B i) →
      S.elems el (parts.map fun p => (p.1, S.eval en.cx p.2)) xs = some xs' →
      ∃ cells' bss', Instr.fill place cells (parts.map fun p => (p.1, a.eval p.2)) = some cells' ∧ xs'.length = n ∧ cells'.size = n * el.size ∧ bss'.length = n ∧
        (∀ i x b, nth xs' i = some x → nth bss' i = some b → OwnD w el x (seg cells'.toList i el.size) b) ∧ bss'.flatten.Nodup ∧
        (∀ q, q ∈ bss'.flatten → q ∈ bss.flatten ∨ ∃ i, i ∈ (parts.flatMap fun p => (S.eval en.cx p.2).ids) ∧ (S.hp i).blk.isSome = true ∧ q ∈ B i)
  | [], xs, xs', cells, bss, h1, h2, h0, h3, h5, _, _, _, hs => by
    injection hs with hs; subst hs
    exact ⟨cells, bss, rfl, h1, h2, h0, h3, h5, fun q hq => .inl hq⟩
  | (j, x) :: parts, xs, xs', cells, bss, h1, h2, h0, h3, h5, h6, h7, h8, hs => by
    simp only [List.map_cons, St.elems] at hs
    split at hs
    · rename_i y hy
      cases hj : Nat.blt j xs.length with
      | false => rw [hj] at hs; cases hs
      | true =>
        rw [hj] at hs
        simp only [cond_true] at hs
        have hjl : j < n := by rw [← h1]; simpa [Nat.blt_eq] using hj
        obtain ⟨g1, g2, g3, g4⟩ := own_all h hp (h.eval x) (h6 (j, x) (by simp)) hy
        have hl := OwnD_len g1
        have hvs : (a.eval x).cells.size = el.size := by rw [← Array.length_toList]; exact hl
        have hmul : j * el.size + el.size ≤ n * el.size := by
          have := Nat.mul_le_mul_right el.size hjl
          rwa [Nat.succ_mul] at this
        have hcl : cells.toList.length = n * el.size := by rw [Array.length_toList]; exact h2
        rw [List.flatMap_cons, List.nodup_append] at h7
        have hbn := blocks_nodup h h7.1 g4
        rw [List.map_cons, fill_step (hpl j) hvs (by omega)]
        obtain ⟨cells', bss', k1, k2, k3, k4, k5, k6, k7⟩ := elems_ownD h hp hpl n parts (xs.set j y) xs' (splice cells.toList (j * el.size) (a.eval x).cells.toList).toArray (bss.set j ((S.eval en.cx x).ids.flatMap B)) (by rw [List.length_set]; exact h1) (by
            simp only [List.size_toArray]
            rw [splice_length (by rw [hl]; omega), hcl]) (by rw [List.length_set]; exact h0) (fun i z b hi hb => by
            show OwnD w el z (seg (splice cells.toList (j * el.size) (a.eval x).cells.toList) i el.size) b
            rcases nth_set xs j i y z hi with ⟨rfl, rfl, hlt⟩ | ⟨hne, hi'⟩
            · rw [seg_splice_same hcl hjl hl]
              have : nth (bss.set i ((S.eval en.cx x).ids.flatMap B)) i = some ((S.eval en.cx x).ids.flatMap B) := by
                unfold nth; rw [List.getElem?_set, if_pos rfl, if_pos (by omega)]
              rw [this] at hb
              injection hb with hb; subst hb
              exact g1
            · have hil : i < n := by
                rw [← h1]; exact (List.getElem?_eq_some_iff.1 hi').1
              rw [seg_splice_ne hcl hjl hil hl hne]
              have hb' : nth bss i = some b := by
                unfold nth at hb ⊢
                rwa [List.getElem?_set, if_neg (fun e => hne e.symm)] at hb
              exact h3 i z b hi' hb')
          (nodup_flatten_set hbn h5 (fun q hq hm => by
            obtain ⟨i, hi, hq⟩ := List.mem_flatMap.1 hq
            exact h8 q hm i (by rw [List.flatMap_cons]; exact List.mem_append_left _ hi) hq))
          (fun p hp' => h6 p (by simp [hp'])) h7.2.1 (fun q hq i hi hqi => by
            rcases mem_flatten_set hq with hq | hq
            · obtain ⟨i', hi', hq⟩ := List.mem_flatMap.1 hq
              have hsi : (S.hp i).blk.isSome = true := by
                obtain ⟨p, hp1, hp2⟩ := List.mem_flatMap.1 hi
                by_cases hs' : (S.hp i).blk.isSome = true
                · exact hs'
                · exact absurd (plainOwn_some (h6 p (by simp [hp1])) i hp2) hs'
              have := h.inj i' i q (g4 i' hi') hsi hq hqi
              subst this
              exact h7.2.2 i' hi' i' hi rfl
            · exact h8 q hq i (by rw [List.flatMap_cons]; exact List.mem_append_right _ hi) hqi) hs
        refine ⟨cells', bss', k1, k2, k3, k4, k5, k6, fun q hq => ?_⟩
        rcases k7 q hq with hq | ⟨i, hi, hs1, hq⟩
        · rcases mem_flatten_set hq with hq | hq
          · obtain ⟨i, hi, hq⟩ := List.mem_flatMap.1 hq
            exact .inr ⟨i, by rw [List.flatMap_cons]; exact List.mem_append_left _ hi, g4 i hi, hq⟩
          · exact .inl hq
        · exact .inr ⟨i, by rw [List.flatMap_cons]; exact List.mem_append_right _ hi, hs1, hq⟩
    · cases hs
theorem buildSlice_good (hC : Types en.P en.cx.C) (h : Fits en D B S a w) {t n : Nat} {parts : Array (Nat × Operand)} {S' : St} {b : Bool} (hd : dBuildSlice en.cx S o.dst t n parts = some (b, S')) (ho : o.op = .buildSlice t n parts) : Good en o a S' ((execOp a.eval o).run en.P w) := by
  unfold dBuildSlice at hd
  split at hd
  · rename_i d el hdst hT
    split at hd
    · rename_i xs hxs
      cases hf : (S.free d && Nat.blt (n * el.size) 1000) with
      | false => rw [hf] at hd; cases hd
      | true =>
        rw [hf] at hd
        simp only [cond_true] at hd
        simp only [Bool.and_eq_true] at hf
        have hsmall : n * el.size < 1000 := by have := hf.2; rwa [Nat.blt_eq] at this
        obtain ⟨e, hu, he, hp⟩ := (hC.ok _ _ hT).sl
        have hz := he.zero w
        have hcells : (cellsVal el (zc el)).cells = (zc el).toArray := by
          apply Array.ext'
          rw [cellsVal_cells (zc_one _) (zc_length _) he.one]
        have hmap : (parts.map fun (i, x) => (i, a.eval x)).toList = parts.toList.map fun p => (p.1, a.eval p.2) := by simp
        have hrunc : ∀ cells', Instr.fill (fun i => some (i * el.size, el.size)) (madeCells (zc el).toArray (n * el.size)) (parts.toList.map fun p => (p.1, a.eval p.2)) = some cells' →
            (execOp a.eval o).run en.P w = .ok (.value (.slice (some ⟨w.heap.size, 0, none⟩) n n)) (w.alloc (.cells cells' e)) := by
          intro cells' f1
          have hbig : ¬ (n * el.size > 2 ^ 24) := by omega
          simp only [execOp, ho, Instr.buildSlice, Sem.run_bind, run_underlying hu, Result.andThen_ok, he.sizeOf]
          rw [if_neg hbig]
          by_cases h0 : n * el.size = 0
          · rw [if_pos h0]
            simp only [Sem.run_bind, Sem.run_pure, Result.andThen_ok]
            have hm : (Array.range (n * el.size)).map (fun i => (#[] : Array Value)[i % (#[] : Array Value).size]!) = madeCells (zc el).toArray (n * el.size) := by
              rw [h0]; simp [madeCells]
            rw [hm, hmap, f1]
            rfl
          · rw [if_neg h0]
            simp only [Sem.run_bind, hz, Result.andThen_ok, Sem.run_pure, hcells]
            have hm : (Array.range (n * el.size)).map (fun i => (zc el).toArray[i % (zc el).toArray.size]!) = madeCells (zc el).toArray (n * el.size) := rfl
            rw [hm, hmap, f1]
            rfl
        cases hdp : (en.cx.dp && el.deepT) with
        | true =>
          rw [hdp] at hd
          simp only [cond_true] at hd
          simp only [Ty.deepT, Bool.and_eq_true] at hdp
          cases hc : ((parts.toList.map fun p => S.eval en.cx p.2).all S.plainOwn && distinct ((parts.toList.map fun p => S.eval en.cx p.2).flatMap AV.ids)) with
          | false => rw [hc] at hd; cases hd
          | true =>
            rw [hc] at hd
            injection hd with hd; injection hd with h1 h2; subst h2
            simp only [Bool.and_eq_true] at hc
            have hids : (parts.toList.map fun p => S.eval en.cx p.2).flatMap AV.ids = parts.toList.flatMap fun p => (S.eval en.cx p.2).ids := by
              rw [List.flatMap_map]
            rw [hids] at hc ⊢
            have hall : ∀ p ∈ parts.toList, S.plainOwn (S.eval en.cx p.2) = true := fun p hp' => List.all_eq_true.1 hc.1 _ (List.mem_map.2 ⟨p, hp', rfl⟩)
            obtain ⟨cells', bss', f1, f2, f3, f4, f5, f6, f7⟩ := elems_ownD h hp (place := fun i => some (i * el.size, el.size)) (fun _ => rfl) n parts.toList
              (List.replicate n el.zero) xs (madeCells (zc el).toArray (n * el.size)) (List.replicate n []) List.length_replicate (by simp [madeCells]) List.length_replicate (fun i x b hi hb => by
                obtain ⟨g1, g2⟩ := nth_replicate hi
                subst g2
                have e3 : b = [] := List.eq_of_mem_replicate (List.mem_of_getElem? hb)
                subst e3
                have := made_seg (zc el) n i g1
                rw [zc_length] at this
                rw [this]
                exact zc_ownD hdp.2.2) (by
                rw [flatten_nils fun i b hb => List.eq_of_mem_replicate (List.mem_of_getElem? hb)]; exact List.nodup_nil) hall (distinct_nodup hc.2) (fun q hq => by
                rw [flatten_nils fun i b hb => List.eq_of_mem_replicate (List.mem_of_getElem? hb)] at hq; cases hq) hxs
            have hfr : ∀ q, q ∈ bss'.flatten → ∃ i, i ∈ (parts.toList.flatMap fun p => (S.eval en.cx p.2).ids) ∧ (S.hp i).blk.isSome = true ∧ q ∈ B i := by
              intro q hq
              rcases f7 q hq with hq | hq
              · rw [flatten_nils fun i b hb => List.eq_of_mem_replicate (List.mem_of_getElem? hb)] at hq; cases hq
              · exact hq
            have hver : ((S.gone (parts.toList.flatMap fun p => (S.eval en.cx p.2).ids)).hp d).ver = (S.hp d).ver := by
              rw [gone_hp]; split <;> rfl
            have hF : Fits en (upd D d (.slice (some ⟨w.heap.size, 0, none⟩) n n)) (upd B d (w.heap.size :: bss'.flatten)) ((S.gone (parts.toList.flatMap fun p => (S.eval en.cx p.2).ids)).fresh d (.deep el xs 0)) a (w.alloc (.cells cells' e)) := by
              refine h.absorb d _ _ _ _ ((Below.refl _ _).alloc h.below.size _).m ?_ ?_ (fun q hq _ => Go.heap_alloc_old w _ q hq) (fun hA hw hs => ?_)
              · rw [List.nodup_cons]
                refine ⟨fun hm => ?_, f6⟩
                obtain ⟨i, _, g2, g3⟩ := hfr _ hm
                have := (h.lt i _ g2 g3).2
                omega
              · intro q hq
                rcases List.mem_cons.1 hq with hq | hq
                · subst hq
                  exact ⟨.inr h.below.size, by simp, .inl (Nat.le_refl _)⟩
                · obtain ⟨i, g1, g2, g3⟩ := hfr q hq
                  have := h.lt i q g2 g3
                  refine ⟨this.1, ?_, .inr ⟨i, .inr g1, g2, g3⟩⟩
                  have h9 : w.heap.size ≤ (w.alloc (.cells cells' e)).heap.size := by simp
                  omega
              · show OwnD _ (.sl el) xs [upd D d _ d] (upd B d _ d)
                rw [upd_at, upd_at]
                refine ⟨some ⟨w.heap.size, 0, none⟩, n, by rw [f2], by rw [f2]; exact Nat.le_refl _, .inr ⟨w.heap.size, cells', e, bss', rfl, rfl, Go.heap_alloc_new w _, f3, by rw [f4, f2], fun i x b hi hb => ?_⟩⟩
                refine OwnD_mono (f5 i x b hi hb) (fun q hq => Go.heap_alloc_old w _ q ?_)
                obtain ⟨i', _, g2, g3⟩ := hfr q (mem_flatten_nth hb hq)
                exact (h.lt i' q g2 g3).2
            have hP := blk_put ⟨_, _, _, rfl⟩ hF (some d)
            rw [hver] at hP
            unfold Good
            rw [hdst]
            exact ⟨_, .inl ⟨_, hrunc cells' f1, _, _, hP⟩⟩
        | false =>
        rw [hdp] at hd
        simp only [cond_false] at hd
        injection hd with hd; injection hd with h1 h2; subst h2
        have hG := h.gone (hasRows el (parts.toList.map fun p => S.eval en.cx p.2))
        obtain ⟨cells', f1, f2, f3, f4⟩ := elems_rep h hp (place := fun i => some (i * el.size, el.size)) (fun _ => rfl) (A' := (memOf en D B (S.gone (hasRows el (parts.toList.map fun p => S.eval en.cx p.2))) w).A) n parts.toList
          (List.replicate n el.zero) xs (madeCells (zc el).toArray (n * el.size)) List.length_replicate (by simp [madeCells]) (fun i x hi => by
            obtain ⟨g1, g2⟩ := nth_replicate hi
            subst g2
            have := made_seg (zc el) n i g1
            rw [zc_length] at this
            rw [this]
            exact zc_rep el) (fun p hp' x cs hr => elems_move h (List.mem_map.2 ⟨p, hp', rfl⟩) x cs hr) hxs
        have hver : ((S.gone (hasRows el (parts.toList.map fun p => S.eval en.cx p.2))).hp d).ver = (S.hp d).ver := by
          rw [gone_hp]; split <;> rfl
        have hF := hG.new d (.row el xs) (.slice (some ⟨w.heap.size, 0, none⟩) n n) cells' e (fun hA hw hs => by
          refine ⟨some ⟨w.heap.size, 0, none⟩, n, by rw [f2]; exact upd_at _ _ _, by rw [f2]; exact Nat.le_refl _, .inr ⟨w.heap.size, cells', e, upd_at _ _ _, rfl, Go.heap_alloc_new w _, f3, fun i x hi => ?_⟩⟩
          exact Rep_mono hA hw (f4 i x hi))
        have hP := row_put ⟨_, _, _, rfl⟩ hF (some d)
        rw [hver] at hP
        unfold Good
        rw [hdst]
        exact ⟨_, .inl ⟨_, hrunc cells' f1, _, _, hP⟩⟩
    · cases hd
  · cases hd
theorem TyF.under {P : Program} {T : Ty} {t : Nat} (h : TyF P T t) : ∃ d, P.underlying t = some d := by
  cases T with
  | int k => exact ⟨_, h.int⟩
  | bool => exact ⟨_, h.bool⟩
  | str => exact ⟨_, h.str⟩
  | pair a b => exact h.noPair.elim
  | st a => obtain ⟨fs, h1, _⟩ := h.st; exact ⟨_, h1⟩
  | arr n a => obtain ⟨e, h1, _⟩ := h.arr; exact ⟨_, h1⟩
  | sl a => obtain ⟨e, h1, _⟩ := h.sl; exact ⟨_, h1⟩
/-- Every operation that calls nothing. -/
theorem det_good (hC : Types en.P en.cx.C) (h : Fits en D B S a w) {S' : St} {b : Bool} (hd : det en.cx S o = some (b, S')) (hb : b = true) : Good en o a S' ((execOp a.eval o).run en.P w) := by
  unfold det at hd
  split at hd
  case h_1 x ho =>
    injection hd with hd; injection hd with h1 h2; subst h2
    exact good_put h (v := a.eval x) (by simp [execOp, ho]) (h.eval x)
  case h_2 x ho =>
    injection hd with hd; injection hd with h1 h2; subst h2
    exact good_put h (v := a.eval x) (by simp [execOp, ho]) (h.eval x)
  case h_3 c x y ho => exact pick_good h hd ho
  case h_4 t ho => exact alloc_good hC h hd ho
  case h_5 t x ho => exact box_good hC h hd ho
  case h_6 t parts ho => exact build_good hC h hd ho
  case h_7 t n parts ho => exact buildSlice_good hC h hd ho
  case h_8 t p ho => exact load_good hC h hd ho
  case h_9 t p x ho => exact store_good hC h hd ho
  case h_10 x ho => exact nil_good h hd ho
  case h_11 op t x y t' ho => exact bin_good hC h hd hb ho
  case h_12 op t x ho => exact un_good h hd ho
  case h_13 src t x ho =>
    split at hd
    · rename_i T hT
      exact conv_good hC h hd ho (hC.ok _ _ hT).under
    · cases hd
  case h_14 fn first caps ho => exact makeFunc_good h hd ho
  case h_15 t l c ho => exact make_good hC h hd hb ho
  case h_16 t x lo hi mx ho => exact slice_good hC h hd hb ho
  case h_17 s x j ho => exact fieldAddr_good hC h hd ho
  case h_18 t x j ho => exact field_good hC h hd ho
  case h_19 t x i ho => exact indexAddr_good hC h hd hb ho
  case h_20 t x i ho => exact index_good hC h hd hb ho
  case h_21 x i ho => exact extract_good h hd ho
  case h_22 c ho =>
    split at hd
    · rename_i hc
      split at hd
      · rename_i x t hargs htys
        exact len_good hC h hd ho hc hargs htys
      · cases hd
    · rename_i hc
      split at hd
      · rename_i x y t t' hargs htys
        exact append_good hC h hd hb ho hc hargs htys
      · cases hd
    · rename_i hc
      split at hd
      · rename_i x y hargs
        exact minmax_good (mx := false) h hd ho hc hargs
      · cases hd
    · rename_i hc
      split at hd
      · rename_i x y hargs
        exact minmax_good (mx := true) h hd ho hc hargs
      · cases hd
    · cases hd
  case h_23 => cases hd
end
end Go.Ev
/- The evaluator's soundness, part 18: contracts of callees; what comes back of a call. -/
set_option linter.unusedSectionVars false
namespace Go.Ev
open Go Go.RowKit

def argMem (w : World) (G : Nat → Prop) : Mem := { w := w, A := G, hp := fun _ => ⟨0, none⟩, D := fun _ => undef, B := fun _ => [] }
def OneRes (w w' : World) (G : Nat → Prop) (bs : List Nat) (r : Res) (v : Value) (b : List Nat) : Prop :=
  bif r.own then OwnD w' r.T r.x v.cells.toList b ∧ (r.T.isAgg = true → ∃ cs, v = .agg cs) ∧ (r.T.isAgg = false → v.oneCell' = true) else b = [] ∧ ValRep w' (fun k => (G k ∨ (w.heap.size ≤ k ∧ k < w'.heap.size)) ∧ k ∉ bs) r.T r.x v
def ResReps (w w' : World) (G : Nat → Prop) (bs : List Nat) : List Res → List Value → List Nat → Prop
  | [], vs, b => vs = [] ∧ b = []
  | r :: rs, vs, b => ∃ v vs' b0 b1, vs = v :: vs' ∧ b = b0 ++ b1 ∧ r.T.isPair = false ∧ OneRes w w' G bs r v b0 ∧ ResReps w w' G bs rs vs' b1
def packed (vs : List Value) : Value := match vs with
  | [v] => v
  | vs => .tuple vs.toArray
def ResRep (w w' : World) (G : Nat → Prop) (rs : List Res) (v : Value) : Prop :=
  ∃ vs bs, v = packed vs ∧ bs.Nodup ∧ (∀ b ∈ bs, w.heap.size ≤ b ∧ b < w'.heap.size) ∧ ResReps w w' G bs rs vs bs
/-- A callee's contract, told by what goes on behind it. -/
def CallsK (P : Program) (glob : Nat → AV) (n : Nat) (args : List AV) {R : Type} (K : List Res → Option R) (r : R) : Prop :=
  ∀ (w : World) (vals : List Value) (G : Nat → Prop), (∀ k, G k → k < w.heap.size) → AVReps (argMem w G) args vals → (∀ g, AVRep (argMem w G) (glob g) (.pointer (some ⟨g, 0, none⟩))) →
    Calls P n vals.toArray w fun e w' => ∃ rs v, K rs = some r ∧ e = .returned v ∧ Below w.heap.size w w' ∧ ResRep w w' G rs v
def callable (P : Program) (n : Nat) : Bool := match P.funcs[n]? with
  | some fn => Nat.blt n 1000000 && (!(fn.name == "runtime.NumGoroutine") && fn.body.isSome)
  | none => false
theorem callable_lt {P : Program} {n : Nat} (h : callable P n = true) : n < 1000000 := by
  unfold callable at h
  split at h
  · simp only [Bool.and_eq_true] at h
    have := h.1
    rw [Nat.blt_eq] at this
    exact this
  · cases h
/-! ### rows that are handed in to be written -/
/-- A value whose slices are rows, one entry a slice. -/
def OwnO (w : World) : (T : Ty) → T.den → List Value → List (List Nat) → Prop
  | .pair a b, x, cs, bs => ∃ c0 c1 b0 b1, cs = c0 ++ c1 ∧ bs = b0 ++ b1 ∧ OwnO w a x.1 c0 b0 ∧ OwnO w b x.2 c1 b1
  | .st a, x, cs, bs => OwnO w a x cs bs
  | .sl a, xs, cs, bs => ∃ v bk, cs = [v] ∧ OwnD w (.sl a) xs [v] bk ∧ bs = [bk]
  | .int k, x, cs, bs => Rep w (fun _ => False) (.int k) x cs ∧ bs = []
  | .bool, x, cs, bs => Rep w (fun _ => False) .bool x cs ∧ bs = []
  | .str, x, cs, bs => Rep w (fun _ => False) .str x cs ∧ bs = []
  | .arr n a, x, cs, bs => Rep w (fun _ => False) (.arr n a) x cs ∧ bs = []
def OwnVal (w : World) (T : Ty) (x : T.den) (v : Value) (b : List (List Nat)) : Prop :=
  OwnO w T x v.cells.toList b ∧ (T.isAgg = true → ∃ cs, v = .agg cs) ∧ (T.isAgg = false → v.oneCell' = true) ∧ T.isPair = false ∧ T.flatIn = true
def InReps (w : World) (G : Nat → Prop) (m : Nat) : Nat → List AV → List Value → List (List Nat) → Prop
  | _, [], vs, bs => vs = [] ∧ bs = []
  | j, a :: as, vs, bs => ∃ v vs', vs = v :: vs' ∧ (Nat.testBit m j = true → ∃ T x b0 b1, a = .val T x ∧ bs = b0 ++ b1 ∧ OwnVal w T x v b0 ∧ InReps w G m (j + 1) as vs' b1) ∧ (Nat.testBit m j = false → AVRep (argMem w G) a v ∧ InReps w G m (j + 1) as vs' bs)
/-- What they hold behind the call: the first of what comes back; the rest are the results. -/
def NewReps (w' : World) (m : Nat) (rets : List Res) : Nat → List AV → List Value → List Res → List (List Nat) → Prop
  | _, [], vs, rs, bs => vs = [] ∧ bs = [] ∧ rs = rets
  | j, a :: as, vs, rs, bs => ∃ v vs', vs = v :: vs' ∧ (Nat.testBit m j = true → ∃ T x y o rs' b0 b1, a = .val T x ∧ rs = ⟨T, y, o⟩ :: rs' ∧ bs = b0 ++ b1 ∧ OwnVal w' T y v b0 ∧ NewReps w' m rets (j + 1) as vs' rs' b1) ∧ (Nat.testBit m j = false → NewReps w' m rets (j + 1) as vs' rs bs)
def FlatReps (w' : World) : List Res → List Value → Prop
  | [], vs => vs = []
  | r :: rs, vs => ∃ v vs', vs = v :: vs' ∧ ValRep w' (fun _ => False) r.T r.x v ∧ FlatReps w' rs vs'
def blocks (bs : List (List Nat)) : List Nat := bs.flatten
def CallsI (P : Program) (glob : Nat → AV) (n m : Nat) (args : List AV) {R : Type} (K : List Res → Option R) (r : R) : Prop :=
  ∀ (w : World) (vals : List Value) (G : Nat → Prop) (bs : List (List Nat)), (∀ k, G k → k < w.heap.size) → (∀ k ∈ blocks bs, k < w.heap.size ∧ ¬ G k) → (blocks bs).Nodup → InReps w G m 0 args vals bs → (∀ g, AVRep (argMem w G) (glob g) (.pointer (some ⟨g, 0, none⟩))) →
    Calls P n vals.toArray w fun e w' => ∃ rs rets v, K rs = some r ∧ e = .returned v ∧ BelowM (fun k => k ∈ blocks bs) w.heap.size w w' ∧ NewReps w' m rets 0 args vals rs bs ∧ (rets.all (fun r => !r.T.hasSl) = true → ∃ vs, v = packed vs ∧ FlatReps w' rets vs)
structure SoundE (P : Program) (glob : Nat → AV) (E : Tbl) : Prop where
  ok : ∀ {R : Type} (n : Nat) (args : List AV) (K : List Res → Option R) (r : R), E n args K = some r → (n < 1000000 → callable P n = true ∧ CallsK P glob n args K r) ∧ (1000000 ≤ n → callable P (n % 1000000) = true ∧ CallsI P glob (n % 1000000) (n / 1000000) args K r)

section
variable {en : Ent} {D : Nat → Value} {B : Nat → List Nat} {S : St} {a : Act} {w : World} {o : Oper}
/-- Blocks are taken over, or the world has only grown. -/
theorem Fits.grow (h : Fits en D B S a w) {D' : Nat → Value} {B' : Nat → List Nat} {S' : St} {w' : World} (htm : S'.tm = S.tm) (hb : Below w.heap.size w w')
    (hall : ∀ i, (S'.hp i = S.hp i ∧ D' i = D i ∧ B' i = B i) ∨ ((S.hp i).ver < (S'.hp i).ver ∧ (∀ k, k ∈ B' i → w.heap.size ≤ k ∧ k < w'.heap.size) ∧ (B' i).Nodup ∧ ∀ b, (S'.hp i).blk = some b → BlkRep (memOf en D' B' S' w') i b))
    (hinj : ∀ i j k, S'.hp i ≠ S.hp i → S'.hp j ≠ S.hp j → k ∈ B' i → k ∈ B' j → i = j) : Fits en D' B' S' a w' := by
  have hsz := h.below.size
  have hne : ∀ i, (S.hp i).ver < (S'.hp i).ver → S'.hp i ≠ S.hp i := fun i hi e => by rw [e] at hi; exact Nat.lt_irrefl _ hi
  have hAlt : ∀ k, (memOf en D B S w).A k → k < w.heap.size := by
    rintro k ⟨h1 | h1, _⟩
    · exact Nat.lt_of_lt_of_le (h.gl k h1) hsz
    · exact h1.2
  have hA : ∀ k, (memOf en D B S w).A k → (memOf en D' B' S' w').A k := by
    intro k hk
    have hlt := hAlt k hk
    refine ⟨?_, fun ⟨i, g1, g2⟩ => ?_⟩
    · rcases hk.1 with h1 | h1
      · exact .inl h1
      · exact .inr ⟨h1.1, Nat.lt_of_lt_of_le h1.2 hb.size⟩
    · rcases hall i with ⟨e1, e2, e3⟩ | ⟨e1, e2, _⟩
      · exact hk.2 ⟨i, by rw [← e1]; exact g1, by rw [← e3]; exact g2⟩
      · have := (e2 k g2).1
        omega
  have hw : ∀ k, (memOf en D B S w).A k → w'.heap[k]? = w.heap[k]? := fun k hk => hb.block k (hAlt k hk)
  have hs : ∀ i, SlotLe (memOf en D B S w) (memOf en D' B' S' w') i := by
    intro i
    rcases hall i with ⟨e1, e2, e3⟩ | ⟨e1, _⟩
    · exact SlotLe.same e1 e2 e3 (fun hs' k hk => hb.block k (h.lt i k hs' hk).2)
    · exact .inl e1
  refine h.step htm (hb.mono hsz).m ?_ ?_ ?_ hA hw hs ?_
  · intro i k g1 g2
    rcases hall i with ⟨e1, e2, e3⟩ | ⟨e1, e2, _⟩
    · rw [e1] at g1; rw [e3] at g2
      have := h.lt i k g1 g2
      exact ⟨this.1, Nat.lt_of_lt_of_le this.2 hb.size⟩
    · have := e2 k g2
      exact ⟨.inr (Nat.le_trans hsz this.1), this.2⟩
  · intro i j k g1 g2 g3 g4
    rcases hall i with ⟨e1, e2, e3⟩ | ⟨e1, e2, _⟩
    · rcases hall j with ⟨f1, f2, f3⟩ | ⟨f1, f2, _⟩
      · rw [e1] at g1; rw [f1] at g2; rw [e3] at g3; rw [f3] at g4
        exact h.inj i j k g1 g2 g3 g4
      · rw [e1] at g1; rw [e3] at g3
        have k1 := (h.lt i k g1 g3).2
        have k2 := (f2 k g4).1
        omega
    · rcases hall j with ⟨f1, f2, f3⟩ | ⟨f1, f2, _⟩
      · rw [f1] at g2; rw [f3] at g4
        have k1 := (h.lt j k g2 g4).2
        have k2 := (e2 k g3).1
        omega
      · exact hinj i j k (hne i e1) (hne j f1) g3 g4
  · intro i g1
    rcases hall i with ⟨e1, e2, e3⟩ | ⟨_, _, e2, _⟩
    · rw [e1] at g1; rw [e3]; exact h.nd i g1
    · exact e2
  · intro i b hb'
    rcases hall i with ⟨e1, e2, e3⟩ | ⟨_, _, _, e3⟩
    · rw [e1] at hb'
      exact BlkRep_mono hA hw hs (fun k hk => hb.block k (h.lt i k (by rw [hb']; rfl) hk).2) e2 e3 (h.blk i b hb')
    · exact e3 b hb'
theorem Fits.later (h : Fits en D B S a w) {w' : World} (hb : Below w.heap.size w w') : Fits en D B S a w' :=
  h.grow rfl hb (fun _ => .inl ⟨rfl, rfl, rfl⟩) (fun i _ _ hi => absurd rfl hi)

theorem free_blk {S : St} {n : Nat} (h : S.free n = true) : (S.hp n).blk = none := by
  unfold St.free at h
  split at h
  · assumption
  · cases h
/-- What adopt does. -/
structure Took (w' : World) (S S' : St) (D D' : Nat → Value) (B B' : Nat → List Nat) (n n' : Nat) (bs : List Nat) : Prop where
  le : n ≤ n'
  tm : S'.tm = S.tm
  out : ∀ i, i < n ∨ n' ≤ i → S'.hp i = S.hp i ∧ D' i = D i ∧ B' i = B i
  new : ∀ i, n ≤ i → i < n' → (S.hp i).ver < (S'.hp i).ver ∧ ∃ el xs, (S'.hp i).blk = some (rowOf el xs) ∧ OwnD w' (.sl el) xs [D' i] (B' i) ∧ (∀ k, k ∈ B' i → k ∈ bs) ∧ (bs.Nodup → (B' i).Nodup)
  inj : bs.Nodup → ∀ i j k, n ≤ i → i < n' → n ≤ j → j < n' → k ∈ B' i → k ∈ B' j → i = j
theorem Took.none_ {w' : World} {S : St} {D : Nat → Value} {B : Nat → List Nat} {n : Nat} : Took w' S S D D B B n n [] :=
  ⟨Nat.le_refl _, rfl, fun _ _ => ⟨rfl, rfl, rfl⟩, fun i h1 h2 => by omega, fun _ i j k h1 h2 => by omega⟩
theorem Took.trans {w' : World} {S S1 S2 : St} {D D1 D2 : Nat → Value} {B B1 B2 : Nat → List Nat} {n n1 n2 : Nat} {b1 b2 : List Nat} (h1 : Took w' S S1 D D1 B B1 n n1 b1) (h2 : Took w' S1 S2 D1 D2 B1 B2 n1 n2 b2) : Took w' S S2 D D2 B B2 n n2 (b1 ++ b2) := by
  have hle1 := h1.le
  have hle2 := h2.le
  refine ⟨Nat.le_trans h1.le h2.le, h2.tm.trans h1.tm, fun i hi => ?_, fun i g1 g2 => ?_, fun hnd i j k g1 g2 g3 g4 g5 g6 => ?_⟩
  · obtain ⟨e1, e2, e3⟩ := h2.out i (by omega)
    obtain ⟨f1, f2, f3⟩ := h1.out i (by omega)
    exact ⟨e1.trans f1, e2.trans f2, e3.trans f3⟩
  · by_cases hi : i < n1
    · obtain ⟨e1, e2, e3⟩ := h2.out i (by omega)
      obtain ⟨f1, el, xs, f2, f3, f4, f5⟩ := h1.new i g1 hi
      refine ⟨by rw [e1]; exact f1, el, xs, by rw [e1]; exact f2, by rw [e2, e3]; exact f3, fun k hk => List.mem_append_left _ (f4 k (by rw [← e3]; exact hk)), fun hn => by rw [e3]; exact f5 (List.nodup_append.1 hn).1⟩
    · obtain ⟨e1, e2, e3⟩ := h1.out i (by omega)
      obtain ⟨f1, el, xs, f2, f3, f4, f5⟩ := h2.new i (by omega) g2
      exact ⟨by rw [← e1]; exact f1, el, xs, f2, f3, fun k hk => List.mem_append_right _ (f4 k hk), fun hn => f5 (List.nodup_append.1 hn).2.1⟩
  · rw [List.nodup_append] at hnd
    by_cases hi : i < n1
    · by_cases hj : j < n1
      · obtain ⟨_, _, e3⟩ := h2.out i (by omega)
        obtain ⟨_, _, f3⟩ := h2.out j (by omega)
        rw [e3] at g5; rw [f3] at g6
        exact h1.inj hnd.1 i j k g1 hi g3 hj g5 g6
      · obtain ⟨_, _, e3⟩ := h2.out i (by omega)
        rw [e3] at g5
        obtain ⟨_, _, _, _, _, k1, _⟩ := h1.new i g1 hi
        obtain ⟨_, _, _, _, _, k2, _⟩ := h2.new j (by omega) g4
        exact absurd rfl (hnd.2.2 k (k1 k g5) k (k2 k g6))
    · by_cases hj : j < n1
      · obtain ⟨_, _, e3⟩ := h2.out j (by omega)
        rw [e3] at g6
        obtain ⟨_, _, _, _, _, k1, _⟩ := h1.new j g3 hj
        obtain ⟨_, _, _, _, _, k2, _⟩ := h2.new i (by omega) g2
        exact absurd rfl (hnd.2.2 k (k1 k g6) k (k2 k g5))
      · exact h2.inj hnd.2.1 i j k (by omega) g2 (by omega) g4 g5 g6
/-- The taken values, in whatever state still holds those blocks. -/
def Holds (w' : World) (S' : St) (D' : Nat → Value) (n n' : Nat) (m : Mem) : Prop := m.w = w' ∧ ∀ i, n ≤ i → i < n' → m.hp i = S'.hp i ∧ m.D i = D' i
theorem adopt_spec {w' : World} : ∀ {T : Ty} {x : T.den} {n : Nat} {S : St} {l : List AV} {n' : Nat} {S' : St} {cs : List Value} {bs : List Nat} (D : Nat → Value) (B : Nat → List Nat), adopt T x n S = some (l, n', S') → OwnD w' T x cs bs →
    ∃ D' B', Took w' S S' D D' B B' n n' bs ∧ ∀ m, Holds w' S' D' n n' m → AVReps m l cs
  | .int k, x, n, S, l, n', S', cs, bs, D, B, h, ho => by
    injection h with h; injection h with h1 h; injection h with h2 h3; subst h1; subst h2; subst h3
    obtain ⟨hr, rfl⟩ := ho
    exact ⟨D, B, Took.none_, fun m hm => explode_rep (T := .int k) (Rep_flat rfl hr)⟩
  | .bool, x, n, S, l, n', S', cs, bs, D, B, h, ho => by
    injection h with h; injection h with h1 h; injection h with h2 h3; subst h1; subst h2; subst h3
    obtain ⟨hr, rfl⟩ := ho
    exact ⟨D, B, Took.none_, fun m hm => explode_rep (T := .bool) (Rep_flat rfl hr)⟩
  | .str, x, n, S, l, n', S', cs, bs, D, B, h, ho => by
    injection h with h; injection h with h1 h; injection h with h2 h3; subst h1; subst h2; subst h3
    obtain ⟨hr, rfl⟩ := ho
    exact ⟨D, B, Took.none_, fun m hm => explode_rep (T := .str) (Rep_flat rfl hr)⟩
  | .arr k a, x, n, S, l, n', S', cs, bs, D, B, h, ho => by
    injection h with h; injection h with h1 h; injection h with h2 h3; subst h1; subst h2; subst h3
    obtain ⟨_, hr, rfl⟩ := ho
    refine ⟨D, B, Took.none_, fun m hm => explode_rep (T := .arr k a) ?_⟩
    rw [hm.1]
    exact Rep_sub (fun k hk => hk.elim) hr
  | .st a, x, n, S, l, n', S', cs, bs, D, B, h, ho => adopt_spec (T := a) D B h ho
  | .sl el, xs, n, S, l, n', S', cs, bs, D, B, h, ho => by
    simp only [adopt] at h
    cases hf : S.free n with
    | false => rw [hf] at h; cases h
    | true =>
      rw [hf] at h
      injection h with h; injection h with h1 h; injection h with h2 h3; subst h1; subst h2; subst h3
      have hr := ho
      obtain ⟨ad, c, hcs, _⟩ := ho
      obtain ⟨v, rfl⟩ : ∃ v, cs = [v] := ⟨_, hcs⟩
      have hhp : (S.fresh n (rowOf el xs)).hp n = ⟨(S.hp n).ver + 1, some (rowOf el xs)⟩ := by unfold St.fresh; rw [set_hp, if_pos rfl]
      refine ⟨upd D n v, upd B n bs, ⟨Nat.le_succ _, rfl, fun i hi => ⟨?_, upd_ne _ _ (by omega), upd_ne _ _ (by omega)⟩, fun i g1 g2 => ?_, fun _ i j k g1 g2 g3 g4 _ _ => by omega⟩, fun m hm => ?_⟩
      · unfold St.fresh; rw [set_hp, if_neg (by omega)]
      · have : i = n := by omega
        subst this
        refine ⟨by rw [hhp]; exact Nat.lt_succ_self _, el, xs, by rw [hhp], by rw [upd_at, upd_at]; exact hr, fun k hk => ?_, fun hn => by rw [upd_at]; exact hn⟩
        rw [upd_at] at hk
        exact hk
      · obtain ⟨e1, e2⟩ := hm.2 n (Nat.le_refl _) (Nat.lt_succ_self _)
        injection hcs with hv
        refine ⟨v, [], rfl, ⟨⟨_, _, _, hv⟩, by rw [e1, hhp]; exact Nat.le_refl _, fun _ _ => ?_⟩, rfl⟩
        rw [e2, upd_at]
  | .pair a b, x, n, S, l, n', S', cs, bs, D, B, h, ho => by
    simp only [adopt] at h
    split at h
    · rename_i l1 n1 S1 h1
      split at h
      · rename_i l2 n2 S2 h2
        injection h with h; injection h with e1 h; injection h with e2 e3; subst e1; subst e2; subst e3
        obtain ⟨c0, c1, b0, b1, rfl, rfl, o1, o2⟩ := ho
        obtain ⟨D1, B1, t1, r1⟩ := adopt_spec D B h1 o1
        obtain ⟨D2, B2, t2, r2⟩ := adopt_spec D1 B1 h2 o2
        refine ⟨D2, B2, t1.trans t2, fun m hm => AVReps_append (r1 m ⟨hm.1, fun i g1 g2 => ?_⟩) (r2 m ⟨hm.1, fun i g1 g2 => hm.2 i (Nat.le_trans t1.le g1) g2⟩)⟩
        obtain ⟨e1, e2⟩ := hm.2 i g1 (Nat.lt_of_lt_of_le g2 t2.le)
        obtain ⟨f1, f2, _⟩ := t2.out i (.inl g2)
        exact ⟨e1.trans f1, e2.trans f2⟩
      · cases h
    · cases h
end
end Go.Ev
/- The evaluator's soundness, part 19: calls. -/
set_option linter.unusedSectionVars false
set_option linter.unusedVariables false
namespace Go.Ev
open Go Go.RowKit
section
variable {en : Ent} {D : Nat → Value} {B : Nat → List Nat} {S : St} {a : Act} {w : World} {o : Oper}
theorem cells_back {T : Ty} {v : Value} (hs : T.isAgg = false → T.size = 1) (h1 : T.isAgg = true → ∃ cs, v = .agg cs) (h2 : T.isAgg = false → v.oneCell' = true) : cellsVal T v.cells.toList = v := by
  unfold cellsVal
  cases hA : T.isAgg with
  | true => obtain ⟨cs, rfl⟩ := h1 hA; simp [Value.cells]
  | false =>
    have := h2 hA
    cases v <;> first | rfl | (simp [Value.oneCell'] at this)
theorem RowRep_sub {w : World} {A A' : Nat → Prop} (hA : ∀ k, A k → A' k) {v : Value} {T : Ty} {xs : List T.den} {bk : List Nat} (h : RowRep w A v T xs bk) : RowRep w A' v T xs bk := by
  obtain ⟨ad, c, h1, h2, h3⟩ := h
  refine ⟨ad, c, h1, h2, ?_⟩
  rcases h3 with h3 | ⟨k, cells, e, g1, g2, g3, g4, g5⟩
  · exact .inl h3
  · exact .inr ⟨k, cells, e, g1, g2, g3, g4, fun i x hi => Rep_sub hA (g5 i x hi)⟩
theorem rowOf_rep {m : Mem} {id : Nat} {el : Ty} {xs : List el.den} (h : OwnD m.w (.sl el) xs [m.D id] (m.B id)) : BlkRep m id (rowOf el xs) := by
  unfold rowOf
  cases hs : el.hasSl with
  | true => exact h
  | false => exact RowRep_sub (fun k hk => hk.elim) ((OwnD_row hs).1 h)
theorem rowOf_isRow {el : Ty} {xs : List el.den} : (rowOf el xs).isRow = true := by
  unfold rowOf
  cases el.hasSl <;> rfl
theorem backs_spec {w w' : World} {Gc : Nat → Prop} {bsAll : List Nat} {cx : Cx} {d : Nat} : ∀ {rs : List Res} {n : Nat} {S : St} {l : List AV} {n' : Nat} {S' : St} {vals : List Value} {b : List Nat} (D : Nat → Value) (B : Nat → List Nat),
    backs cx d rs n S = some (l, n', S') → ResReps w w' Gc bsAll rs vals b → b.Nodup →
    ∃ D' B' bt, Took w' S S' D D' B B' n n' bt ∧ bt.Sublist b ∧ ∀ m, Holds w' S' D' n n' m → ((rs.any fun r => r.T.hasSl && !r.own) = true → ∀ k, (Gc k ∨ (w.heap.size ≤ k ∧ k < w'.heap.size)) → k ∉ bsAll → m.A k) → (∀ k, k ∈ b → k ∉ bt → m.A k) → AVReps m l vals
  | [], n, S, l, n', S', vals, b, D, B, h, hr, _ => by
    injection h with h; injection h with h1 h; injection h with h2 h3; subst h1; subst h2; subst h3
    obtain ⟨rfl, rfl⟩ := hr
    exact ⟨D, B, [], Took.none_, List.Sublist.refl _, fun m _ _ _ => rfl⟩
  | r :: rs, n, S, l, n', S', vals, b, D, B, h, hr, hnd => by
    obtain ⟨v, vs', b0, b1, rfl, rfl, hpair, h1, h2⟩ := hr
    have hone : r.T.isAgg = false → r.T.size = 1 := by
      intro hA
      cases hT : r.T with
      | pair x y => rw [hT] at hpair; simp [Ty.isPair] at hpair
      | st x => rw [hT] at hA; simp [Ty.isAgg] at hA
      | arr k x => rw [hT] at hA; simp [Ty.isAgg] at hA
      | _ => rfl
    have hnd' := List.nodup_append.1 hnd
    simp only [backs] at h
    cases hc : (r.own && r.T.hasSl && cx.ad d && (cx.dp || r.T.flatRows)) with
    | true =>
      rw [hc] at h
      simp only [cond_true] at h
      simp only [Bool.and_eq_true] at hc
      split at h
      · rename_i l1 n1 S1 ha
        split at h
        · rename_i l2 n2 S2 hb
          injection h with h; injection h with e1 h; injection h with e2 e3; subst e1; subst e2; subst e3
          have h1' := h1
          unfold OneRes at h1'
          rw [hc.1.1.1] at h1'
          obtain ⟨o1, o2, o3⟩ := h1'
          obtain ⟨D1, B1, t1, r1⟩ := adopt_spec D B ha o1
          obtain ⟨D2, B2, bt, t2, hsub, r2⟩ := backs_spec D1 B1 hb h2 hnd'.2.1
          refine ⟨D2, B2, b0 ++ bt, t1.trans t2, (List.Sublist.refl b0).append hsub, fun m hm hv hnb => ⟨v, vs', rfl, ?_, ?_⟩⟩
          · have hl := r1 m ⟨hm.1, fun i g1 g2 => by
              obtain ⟨e1, e2⟩ := hm.2 i g1 (Nat.lt_of_lt_of_le g2 t2.le)
              obtain ⟨f1, f2, _⟩ := t2.out i (.inl g2)
              exact ⟨e1.trans f1, e2.trans f2⟩⟩
            have := aggOf_rep (T := r.T) hl (Rep_one (OwnD_rep o1))
            rwa [cells_back hone o2 o3] at this
          · refine r2 m ⟨hm.1, fun i g1 g2 => hm.2 i (Nat.le_trans t1.le g1) g2⟩ (fun hany => hv ?_) (fun k hk hkb => hnb k (List.mem_append_right _ hk) ?_)
            · rw [List.any_cons, hany, Bool.or_true]
            · intro hmem
              rcases List.mem_append.1 hmem with hmem | hmem
              · exact hnd'.2.2 k hmem k hk rfl
              · exact hkb hmem
        · cases h
      · cases h
    | false =>
      rw [hc] at h
      simp only [cond_false] at h
      split at h
      · rename_i l2 n2 S2 hb
        injection h with h; injection h with e1 h; injection h with e2 e3; subst e1; subst e2; subst e3
        obtain ⟨D2, B2, bt, t2, hsub, r2⟩ := backs_spec D B hb h2 hnd'.2.1
        refine ⟨D2, B2, bt, t2, hsub.trans (List.sublist_append_right _ _), fun m hm hv hnb => ⟨v, vs', rfl, ?_, ?_⟩⟩
        · show ValRep m.w m.A r.T r.x v
          rw [hm.1]
          have h1' := h1
          unfold OneRes at h1'
          cases ho : r.own with
          | true =>
            rw [ho] at h1'
            obtain ⟨o1, o2, o3⟩ := h1'
            have hrep := OwnD_rep o1
            have := cellsVal_rep hpair hrep
            rw [cells_back hone o2 o3] at this
            refine ValRep_sub (fun k hk => hnb k (List.mem_append_left _ hk) ?_) this
            exact fun hmem => hnd'.2.2 k hk k (hsub.subset hmem) rfl
          | false =>
            rw [ho] at h1'
            obtain ⟨_, o2⟩ := h1'
            cases hs : r.T.hasSl with
            | true =>
              refine ValRep_sub (fun k hk => hv ?_ k hk.1 hk.2) o2
              rw [List.any_cons, ho, hs]; rfl
            | false =>
              have hrep := ValRep_cells hpair o2
              have := cellsVal_rep hpair (Rep_flat (A' := m.A) (w' := w') hs hrep)
              unfold ValRep at o2 this ⊢
              cases hA : r.T.isAgg with
              | true =>
                rw [hA] at o2 this
                obtain ⟨cs, rfl, o2⟩ := o2
                exact ⟨cs, rfl, Rep_flat hs o2⟩
              | false =>
                rw [hA] at o2
                exact Rep_flat hs o2
        · refine r2 m hm (fun hany => hv ?_) (fun k hk hkb => hnb k (List.mem_append_right _ hk) hkb)
          rw [List.any_cons, hany, Bool.or_true]
      · cases h
theorem packed_rep {m : Mem} {l : List AV} {vals : List Value} (h : AVReps m l vals) : (∀ v, l = [v] → AVRep m v (packed vals)) ∧ ((∀ v, l ≠ [v]) → AVRep m (.tup l) (packed vals)) := by
  constructor
  · rintro v rfl
    obtain ⟨u, us, rfl, h1, h2⟩ := h
    have h2' : us = [] := h2
    subst h2'
    exact h1
  · intro hne
    have hl := AVReps_length h
    have hv : packed vals = .tuple vals.toArray := by
      unfold packed
      split
      · rename_i v
        match l, hl with
        | [x], _ => exact absurd rfl (hne x)
      · rfl
    rw [hv]
    exact ⟨_, rfl, by simpa using h⟩
theorem callBack_good (h : Fits en D B S a w) {given : List Nat} {rs : List Res} {w' : World} {v : Value} (hb : Below w.heap.size w w') (hr : ResRep w w' (AX (memOf en D B S w) given) rs v) {dst : Option Nat} {S' : St}
    (hd : callBack en.cx S dst given rs = some S') : ∃ D' B', Fits en D' B' S' (a.put dst v) w' := by
  unfold callBack at hd
  split at hd
  · injection hd with hd; subst hd
    exact ⟨D, B, h.later hb⟩
  · rename_i d
    obtain ⟨vals, bs, rfl, hnd, hbs, hres⟩ := hr
    have key : ∀ S1 : St, Fits en D B S1 a w → (viewRes en.cx d rs = true → ∀ k, AX (memOf en D B S w) given k → (memOf en D B S1 w).A k) → ∀ l n' S2, backs en.cx d rs (1000 * (d + 1)) S1 = some (l, n', S2) →
        ∃ D' B', Fits en D' B' S2 a w' ∧ AVReps (memOf en D' B' S2 w') l vals := by
      intro S1 h1 hview l n' S2 hbk
      obtain ⟨D', B', bt, t, hsub, hrep⟩ := backs_spec D B hbk hres hnd
      have hnew : ∀ i k, 1000 * (d + 1) ≤ i → i < n' → k ∈ B' i → w.heap.size ≤ k ∧ k < w'.heap.size := by
        intro i k g1 g2 g3
        obtain ⟨_, _, _, _, _, hk, _⟩ := t.new i g1 g2
        exact hbs k (hsub.subset (hk k g3))
      have hF : Fits en D' B' S2 a w' := by
        refine h1.grow t.tm hb (fun i => ?_) (fun i j k e1 e2 e3 e4 => ?_)
        · by_cases hi : i < 1000 * (d + 1) ∨ n' ≤ i
          · exact .inl (t.out i hi)
          · obtain ⟨f1, el, xs, f2, f3, f4, f5⟩ := t.new i (by omega) (by omega)
            refine .inr ⟨f1, fun k hk => hnew i k (by omega) (by omega) hk, f5 (hsub.nodup hnd), fun b hb' => ?_⟩
            rw [f2] at hb'
            injection hb' with hb'; subst hb'
            exact rowOf_rep f3
        · have hi : ¬ (i < 1000 * (d + 1) ∨ n' ≤ i) := fun hi => e1 (t.out i hi).1
          have hj : ¬ (j < 1000 * (d + 1) ∨ n' ≤ j) := fun hj => e2 (t.out j hj).1
          exact t.inj (hsub.nodup hnd) i j k (by omega) (by omega) (by omega) (by omega) e3 e4
      refine ⟨D', B', hF, hrep _ ⟨rfl, fun _ _ _ => ⟨rfl, rfl⟩⟩ (fun hany k hk hkb => ?_) (fun k hk hkb => ?_)⟩
      · -- what a view may lead to
        have htop : ¬ tops S2 B' k ∨ k < w.heap.size := by
          by_cases hlt : k < w.heap.size
          · exact .inr hlt
          · refine .inl ?_
            rintro ⟨i, g1, g2⟩
            by_cases hi : i < 1000 * (d + 1) ∨ n' ≤ i
            · obtain ⟨f1, f2, f3⟩ := t.out i hi
              rw [f1] at g1; rw [f3] at g2
              exact hlt (h1.lt i k g1 g2).2
            · obtain ⟨_, _, _, _, _, f4, _⟩ := t.new i (by omega) (by omega)
              exact hkb (hsub.subset (f4 k g2))
        have hAcase : (memOf en D B S1 w).A k → (memOf en D' B' S2 w').A k := by
          intro hk1
          have hlt : k < w.heap.size := by
            rcases hk1.1 with h2 | h2
            · exact Nat.lt_of_lt_of_le (h1.gl k h2) h1.below.size
            · exact h2.2
          refine ⟨?_, ?_⟩
          · rcases hk1.1 with h2 | h2
            · exact .inl h2
            · exact .inr ⟨h2.1, Nat.lt_of_lt_of_le h2.2 hb.size⟩
          · rintro ⟨i, g1, g2⟩
            by_cases hi : i < 1000 * (d + 1) ∨ n' ≤ i
            · obtain ⟨f1, f2, f3⟩ := t.out i hi
              rw [f1] at g1; rw [f3] at g2
              exact hk1.2 ⟨i, g1, g2⟩
            · have := (hnew i k (by omega) (by omega) g2).1
              omega
        rcases hk with hk | hk
        · exact hAcase (hview hany k hk)
        · refine ⟨.inr ⟨Nat.le_trans h1.below.size hk.1, hk.2⟩, ?_⟩
          rcases htop with ht | ht
          · exact ht
          · omega
      · have hkn := hbs k hk
        refine ⟨.inr ⟨Nat.le_trans h1.below.size hkn.1, hkn.2⟩, ?_⟩
        rintro ⟨i, g1, g2⟩
        by_cases hi : i < 1000 * (d + 1) ∨ n' ≤ i
        · obtain ⟨f1, f2, f3⟩ := t.out i hi
          rw [f1] at g1; rw [f3] at g2
          have := (h1.lt i k g1 g2).2
          omega
        · obtain ⟨_, _, _, _, _, f4, _⟩ := t.new i (by omega) (by omega)
          exact hkb (f4 k g2)
    have hS1 : Fits en D B (bif viewRes en.cx d rs && !given.isEmpty then S.thaw given else S) a w := by
      cases viewRes en.cx d rs && !given.isEmpty
      · exact h
      · exact h.thaw given
    have hview : viewRes en.cx d rs = true → ∀ k, AX (memOf en D B S w) given k → (memOf en D B (bif viewRes en.cx d rs && !given.isEmpty then S.thaw given else S) w).A k := by
      intro hv k hk
      rw [hv]
      cases given with
      | nil =>
        rcases hk with hk | ⟨i, hi, _⟩
        · exact hk
        · cases hi
      | cons x l => exact AX_thaw h (x :: l) k hk
    split at hd
    · rename_i v n' S2 hbk
      injection hd with hd; subst hd
      obtain ⟨D', B', hF, hrep⟩ := key _ hS1 hview _ _ _ hbk
      exact ⟨D', B', hF.put (some d) ((packed_rep hrep).1 v rfl)⟩
    · rename_i vs n' S2 hne hbk
      injection hd with hd; subst hd
      obtain ⟨D', B', hF, hrep⟩ := key _ hS1 hview _ _ _ hbk
      refine ⟨D', B', hF.put (some d) ((packed_rep hrep).2 (fun v hv => ?_))⟩
      subst hv
      exact hne v rfl
    · cases hd
end
end Go.Ev
/- The evaluator's soundness, part 20: one operation; a region in the order of its text. -/
set_option linter.unusedSectionVars false
set_option linter.unusedVariables false
namespace Go.Ev
open Go Go.RowKit
section
variable {en : Ent} {D : Nat → Value} {B : Nat → List Nat} {S : St} {a : Act} {w : World} {o : Oper}
theorem flat_mem {l : List AV} {S : St} {v : AV} (hv : v ∈ l) : ∀ i, i ∈ capIds S v → i ∈ l.flatMap (capIds S) := fun i hi => List.mem_flatMap.2 ⟨v, hv, hi⟩
theorem ids_cap {S : St} {v : AV} (h : ∀ f caps, v ≠ .fn f caps) : capIds S v = v.ids := by
  cases v with
  | fn f caps => exact absurd rfl (h f caps)
  | _ => rfl
theorem pval_arg {A A' : Nat → Prop} (hA : ∀ k, A k → A' k) {T : Ty} {x : T.den} {v : Value} (h : ∃ p, v = .pointer (some p) ∧ At w A p T x) : AVRep (argMem w A') (.pval T x) v := by
  obtain ⟨p, hp, cs, h1, h2, h3, h4⟩ := h
  exact ⟨p, hp, cs, h1, hA _ h2, Rep_sub hA h3, h4⟩
/-- What stands in a variable, read whole. -/
theorem box_toVal (h : Fits en D B S a w) {T : Ty} {v : AV} {cs : List Value} (hb : BoxRep (memOf en D B S w) T v cs) (hp : T.isPair = false) {y : T.den} (hy : S.toVal T v = some y) : Rep w (AX (memOf en D B S w) v.ids) T y cs := by
  cases v with
  | val U x =>
    obtain ⟨z, e, hr⟩ := hb
    have hy' : asTy T x = some y := hy
    rw [e] at hy'; injection hy' with hy'; subst hy'
    exact Rep_sub (fun k hk => .inl hk) hr
  | agg l =>
    obtain ⟨l', e, hr, h1⟩ := hb
    have hl : l' = l := by
      simp only [cellsOf] at e
      cases hb : (Nat.beq l.length T.size && T.isAgg) with
      | false => rw [hb] at e; cases e
      | true => rw [hb] at e; injection e with e; exact e.symm
    subst hl
    have hv : AVRep (memOf en D B S w) (.agg l') (.agg cs.toArray) := ⟨cs.toArray, rfl, by simpa using h1, by simpa using hr⟩
    have h2 : Rep w (AX (memOf en D B S w) (AV.agg l').ids) T y (Value.agg cs.toArray).cells.toList := ValRep_cells hp (toVal_rep (m := memOf en D B S w) h.blk rfl hp hv hy)
    have e2 : (Value.agg cs.toArray).cells.toList = cs := by simp [Value.cells]
    rw [e2] at h2
    exact h2
  | bot => cases hy
  | tup l => cases hy
  | ptr id ver p => cases hy
  | pval U x => cases hy
  | tab us => cases hy
  | fn f c => cases hy
  | nil =>
    obtain ⟨l', e, hr, h1⟩ := hb
    simp only [cellsOf] at e
    cases hb : (Nat.beq T.size 1 && !T.isAgg) with
    | false => rw [hb] at e; cases e
    | true =>
      rw [hb] at e; injection e with e; subst e
      simp only [Bool.and_eq_true, Bool.not_eq_true'] at hb
      obtain ⟨u, us, rfl, k1, k2⟩ := hr
      have k2' : us = [] := k2
      subst k2'
      have := toVal_rep (m := memOf en D B S w) h.blk rfl hp k1 hy
      unfold ValRep at this
      rw [hb.2] at this
      exact this
  | own id ver =>
    obtain ⟨l', e, hr, h1⟩ := hb
    simp only [cellsOf] at e
    cases hb : (Nat.beq T.size 1 && !T.isAgg) with
    | false => rw [hb] at e; cases e
    | true =>
      rw [hb] at e; injection e with e; subst e
      simp only [Bool.and_eq_true, Bool.not_eq_true'] at hb
      obtain ⟨u, us, rfl, k1, k2⟩ := hr
      have k2' : us = [] := k2
      subst k2'
      have := toVal_rep (m := memOf en D B S w) h.blk rfl hp k1 hy
      unfold ValRep at this
      rw [hb.2] at this
      exact this
  | sub id ver sv p =>
    obtain ⟨l', e, hr, h1⟩ := hb
    simp only [cellsOf] at e
    cases hb : (Nat.beq T.size 1 && !T.isAgg) with
    | false => rw [hb] at e; cases e
    | true =>
      rw [hb] at e; injection e with e; subst e
      simp only [Bool.and_eq_true, Bool.not_eq_true'] at hb
      obtain ⟨u, us, rfl, k1, k2⟩ := hr
      have k2' : us = [] := k2
      subst k2'
      have := toVal_rep (m := memOf en D B S w) h.blk rfl hp k1 hy
      unfold ValRep at this
      rw [hb.2] at this
      exact this
theorem argOf_good (hC : Types en.P en.cx.C) (h : Fits en D B S a w) {t : Nat} {v v' : AV} {x : Value} (hv : AVRep (memOf en D B S w) v x) (ha : argOf en.cx S t v = some v') : AVRep (argMem w (AX (memOf en D B S w) (capIds S v))) v' x := by
  unfold argOf at ha
  split at ha
  · rename_i f caps
    split at ha
    · rename_i cs hcs
      injection ha with ha; subst ha
      obtain ⟨us, rfl, hr⟩ := hv
      refine ⟨us, rfl, ?_⟩
      have key : ∀ (caps cs : List AV) (us : List Value), AVReps (memOf en D B S w) caps us → (∀ i, i ∈ caps.flatMap (fun c => match c with
          | .ptr id ver _ => match S.blk? id ver with
            | some (.box _ w) => id :: w.ids
            | _ => [id]
          | _ => []) → i ∈ capIds S (.fn f (caps))) → ∀ big : List Nat, (∀ i, i ∈ caps.flatMap (fun c => match c with
          | .ptr id ver _ => match S.blk? id ver with
            | some (.box _ w) => id :: w.ids
            | _ => [id]
          | _ => []) → i ∈ big) → caps.mapM (fun c => match c with
        | .ptr id ver [] => match S.blk? id ver with
          | some (.box T w) => bif T.isPair then none else (S.toVal T w).map (AV.pval T)
          | _ => none
        | .pval T x => some (.pval T x)
        | _ => none) = some cs → AVReps (argMem w (AX (memOf en D B S w) big)) cs us := by
        intro caps
        induction caps with
        | nil =>
          intro cs us hr _ big _ hm
          simp only [List.mapM_nil] at hm
          injection hm with hm; subst hm
          exact hr
        | cons c caps ih =>
          intro cs us hr hsub big hbig hm
          obtain ⟨u, us', rfl, k1, k2⟩ := hr
          rw [List.mapM_cons] at hm
          simp only [Option.bind_eq_bind, Option.bind_eq_some_iff] at hm
          obtain ⟨c', hc', cs', hcs', hpure⟩ := hm
          injection hpure with hpure
          subst hpure
          refine ⟨u, us', rfl, ?_, ih cs' us' k2 (fun i hi => by unfold capIds; exact hi) big (fun i hi => hbig i (by rw [List.flatMap_cons]; exact List.mem_append_right _ hi)) hcs'⟩
          split at hc'
          · rename_i id ver
            split at hc'
            · rename_i T u0 hb
              have hpair : T.isPair = false := by
                cases hp : T.isPair with
                | false => rfl
                | true => rw [hp] at hc'; cases hc'
              rw [hpair] at hc'
              simp only [cond_false, Option.map_eq_some_iff] at hc'
              obtain ⟨y, hy, e⟩ := hc'
              subst e
              obtain ⟨k, o1, g1, g2, g3, g4⟩ := ptr_good k1 hb
              obtain ⟨q1, q2⟩ := blk?_some hb
              obtain ⟨k', cells, e, j1, j2, j3, j4⟩ := h.blk id _ q2
              have j1' : B id = [k'] := j1
              rw [j1'] at g1; injection g1 with g1; subst g1
              have hrep := box_toVal h j4 hpair hy
              have hids : ∀ i, i ∈ id :: u0.ids → i ∈ big := fun i hi => hbig i (by
                rw [List.flatMap_cons]
                refine List.mem_append_left _ ?_
                simp only [hb]
                exact hi)
              have ho : o1 = 0 := by
                have : some 0 = some o1 := by
                  rw [← g2]; simp only [Blk.place]; cases T <;> rfl
                injection this with this; exact this.symm
              subst ho
              refine ⟨⟨k', 0, none⟩, g4, cells.toList, rfl, ?_, Rep_sub (AX_mono (fun i hi => hids i (by simp [hi]))) hrep, fun j x hx => ?_⟩
              · exact .inr ⟨id, hids id (by simp), by show (S.hp id).blk.isSome = true; rw [q2]; rfl, by show k' ∈ B id; rw [j1']; simp⟩
              · have j2' : w.heap[k']? = some (.cells cells e (0, 0)) := j2
                simp only [World.cell?, argMem, j2', Option.isSome_none, Bool.false_eq_true, if_false, Nat.zero_add]
                simpa using hx
            · cases hc'
          · injection hc' with hc'; subst hc'
            exact pval_arg (fun k hk => .inl hk) k1
          · cases hc'
      exact key caps cs us.toList hr (fun i hi => hi) _ (fun i hi => hi) hcs
    · cases ha
  · rename_i hne
    split at ha
    · rename_i T hT
      simp only [Option.map_eq_some_iff] at ha
      obtain ⟨y, hy, e⟩ := ha
      subst e
      have := toVal_rep (m := memOf en D B S w) h.blk rfl (hC.ok _ _ hT).isPair hv hy
      rw [ids_cap (fun f c e => hne f c e)]
      exact this
    · cases ha
end
end Go.Ev
/- The evaluator's soundness, part 20b: calls that write what they are handed. -/
set_option linter.unusedSectionVars false
set_option linter.unusedVariables false
namespace Go.Ev
open Go Go.RowKit
section
variable {dr : Bool} {en : Ent} {D : Nat → Value} {B : Nat → List Nat} {S : St} {a : Act} {w : World} {o : Oper}
/-! ### rows that are handed in to be written -/
def bksOf (B : Nat → List Nat) : List AV → List (List Nat)
  | [] => []
  | .own id _ :: l => B id :: bksOf B l
  | .nil :: l => [] :: bksOf B l
  | _ :: l => bksOf B l
theorem bksOf_append (B : Nat → List Nat) : ∀ (l r : List AV), bksOf B (l ++ r) = bksOf B l ++ bksOf B r
  | [], r => rfl
  | v :: l, r => by cases v <;> simp [bksOf, bksOf_append B l r]
theorem cell_own (h : Fits en D B S a w) {T : Ty} (hT : T.flatIn = true) (hag : T.isAgg = false) (hp : T.isPair = false) {v : AV} {x : T.den} {u : Value} (hv : AVRep (memOf en D B S w) v u) (hc : S.cell1 T v = some x) (hpl : S.plainC v = true) : OwnO w T x [u] (bksOf B [v]) := by
  cases v with
  | val U y =>
    have hs : U.hasSl = false := by simpa [St.plainC] using hpl
    obtain ⟨e, he⟩ := asTy_some hc
    subst e; subst he
    have hr : ValRep w (memOf en D B S w).A U y u := hv
    unfold ValRep at hr
    rw [hag] at hr
    have hr : Rep w (fun _ => False) U y [u] := Rep_flat hs hr
    cases U with
    | int k => exact ⟨hr, rfl⟩
    | bool => exact ⟨hr, rfl⟩
    | str => exact ⟨hr, rfl⟩
    | pair a b => cases hp
    | st a => cases hag
    | arr n a => cases hT
    | sl a => cases hs
  | nil =>
    cases T with
    | sl a => exact ⟨u, [], rfl, (own_cell h (T := .sl a) rfl hpl hv hc).1, rfl⟩
    | _ => cases hc
  | own id ver =>
    cases T with
    | sl el =>
      have := (own_cell h (T := .sl el) rfl hpl hv hc).1
      have e : (AV.id1 (.own id ver)).flatMap B = B id := by simp [AV.id1]
      rw [e] at this
      exact ⟨u, B id, rfl, this, rfl⟩
    | _ => cases hc
  | _ => cases hpl
theorem implode_own (h : Fits en D B S a w) : ∀ {T : Ty} {l rest : List AV} {x : T.den} {cs : List Value}, T.flatIn = true → S.implode T l = some (x, rest) → AVReps (memOf en D B S w) l cs → (∀ v ∈ l, S.plainC v = true) →
    ∃ l0 c0 c1, l = l0 ++ rest ∧ cs = c0 ++ c1 ∧ AVReps (memOf en D B S w) rest c1 ∧ OwnO w T x c0 (bksOf B l0)
  | .pair a b, l, rest, x, cs, hT, hi, hr, hp => by
    simp only [Ty.flatIn, Bool.and_eq_true] at hT
    simp only [St.implode] at hi
    split at hi
    · rename_i y r hy
      split at hi
      · rename_i z r' hz
        injection hi with hi; injection hi with h1 h2; subst h1; subst h2
        obtain ⟨l0, c0, c1, e1, e2, e3, e4⟩ := implode_own h hT.1 hy hr hp
        obtain ⟨l1, d0, d1, f1, f2, f3, f4⟩ := implode_own h hT.2 hz e3 (fun v hv => hp v (by rw [e1]; exact List.mem_append_right _ hv))
        refine ⟨l0 ++ l1, c0 ++ d0, d1, by rw [e1, f1, List.append_assoc], by rw [e2, f2, List.append_assoc], f3, c0, d0, _, _, rfl, bksOf_append B l0 l1, e4, f4⟩
      · cases hi
    · cases hi
  | .st a, l, rest, x, cs, hT, hi, hr, hp => implode_own h (T := a) hT hi hr hp
  | .arr n a, l, rest, x, cs, hT, hi, hr, hp => by cases hT
  | .int k, l, rest, x, cs, hT, hi, hr, hp => by
    cases l with
    | nil => cases hi
    | cons v l =>
      simp only [St.implode, Option.map_eq_some_iff] at hi
      obtain ⟨y, hy, e⟩ := hi
      injection e with e1 e2; subst e1; subst e2
      obtain ⟨u, us, rfl, k1, k2⟩ := hr
      exact ⟨[v], [u], us, rfl, rfl, k2, cell_own h hT rfl rfl k1 hy (hp v (by simp))⟩
  | .bool, l, rest, x, cs, hT, hi, hr, hp => by
    cases l with
    | nil => cases hi
    | cons v l =>
      simp only [St.implode, Option.map_eq_some_iff] at hi
      obtain ⟨y, hy, e⟩ := hi
      injection e with e1 e2; subst e1; subst e2
      obtain ⟨u, us, rfl, k1, k2⟩ := hr
      exact ⟨[v], [u], us, rfl, rfl, k2, cell_own h hT rfl rfl k1 hy (hp v (by simp))⟩
  | .str, l, rest, x, cs, hT, hi, hr, hp => by
    cases l with
    | nil => cases hi
    | cons v l =>
      simp only [St.implode, Option.map_eq_some_iff] at hi
      obtain ⟨y, hy, e⟩ := hi
      injection e with e1 e2; subst e1; subst e2
      obtain ⟨u, us, rfl, k1, k2⟩ := hr
      exact ⟨[v], [u], us, rfl, rfl, k2, cell_own h hT rfl rfl k1 hy (hp v (by simp))⟩
  | .sl b, l, rest, x, cs, hT, hi, hr, hp => by
    cases l with
    | nil => cases hi
    | cons v l =>
      simp only [St.implode, Option.map_eq_some_iff] at hi
      obtain ⟨y, hy, e⟩ := hi
      injection e with e1 e2; subst e1; subst e2
      obtain ⟨u, us, rfl, k1, k2⟩ := hr
      exact ⟨[v], [u], us, rfl, rfl, k2, cell_own h hT rfl rfl k1 hy (hp v (by simp))⟩

def UpdAt (w' : World) (D : Nat → Value) (B : Nat → List Nat) (S S' : St) (i : Nat) : Prop :=
  ∃ b b' ver, S.hp i = ⟨ver, some b⟩ ∧ S'.hp i = ⟨ver, some b'⟩ ∧ b.alike b' ∧ (∀ T xs sv ys, b = .deep T xs sv → b' = .deep T ys sv → False) ∧ ∀ m : Mem, m.w = w' → m.D i = D i → m.B i = B i → BlkRep m i b'
structure UpdI (w' : World) (D : Nat → Value) (B : Nat → List Nat) (S S' : St) (X : List Nat) : Prop where
  tm : S'.tm = S.tm
  all : ∀ i, S'.hp i = S.hp i ∨ UpdAt w' D B S S' i
  done : ∀ i ∈ X, UpdAt w' D B S S' i
theorem UpdI.refl {w' : World} : UpdI w' D B S S [] := ⟨rfl, fun _ => .inl rfl, fun i h => by cases h⟩
theorem OwnO_size {w : World} : ∀ {T : Ty} {x : T.den} {cs : List Value} {bs : List (List Nat)}, OwnO w T x cs bs → T.flatIn = true → cs.length = T.size
  | .pair a b, x, cs, bs, h, hT => by
    simp only [Ty.flatIn, Bool.and_eq_true] at hT
    obtain ⟨c0, c1, b0, b1, rfl, rfl, h0, h1⟩ := h
    rw [List.length_append, OwnO_size h0 hT.1, OwnO_size h1 hT.2]; rfl
  | .st a, x, cs, bs, h, hT => OwnO_size (T := a) h hT
  | .sl a, xs, cs, bs, h, hT => by obtain ⟨v, bk, rfl, _⟩ := h; rfl
  | .int k, x, cs, bs, h, hT => Rep_len h.1
  | .bool, x, cs, bs, h, hT => Rep_len h.1
  | .str, x, cs, bs, h, hT => Rep_len h.1
  | .arr n a, x, cs, bs, h, hT => by cases hT
def Ty.nsl : Ty → Nat
  | .pair a b => a.nsl + b.nsl
  | .st a => a.nsl
  | .sl _ => 1
  | _ => 0
theorem OwnO_nsl {w : World} : ∀ {T : Ty} {x : T.den} {cs : List Value} {bs : List (List Nat)}, OwnO w T x cs bs → bs.length = T.nsl
  | .pair a b, x, cs, bs, h => by
    obtain ⟨c0, c1, b0, b1, rfl, rfl, h0, h1⟩ := h
    rw [List.length_append, OwnO_nsl h0, OwnO_nsl h1]; rfl
  | .st a, x, cs, bs, h => OwnO_nsl (T := a) h
  | .sl a, xs, cs, bs, h => by obtain ⟨v, bk, rfl, _, rfl⟩ := h; rfl
  | .int k, x, cs, bs, h => by obtain ⟨_, rfl⟩ := h; rfl
  | .bool, x, cs, bs, h => by obtain ⟨_, rfl⟩ := h; rfl
  | .str, x, cs, bs, h => by obtain ⟨_, rfl⟩ := h; rfl
  | .arr n a, x, cs, bs, h => by obtain ⟨_, rfl⟩ := h; rfl
/-- A cell where no slice is. -/
theorem flat_cell {T : Ty} (hT : T.flatIn = true) (hs : ∀ a, T ≠ .sl a) (hag : T.isAgg = false) (hp : T.isPair = false) {v : AV} {x : T.den} (hc : S.cell1 T v = some x) : ∃ U y, v = .val U y := by
  cases v with
  | val U y => exact ⟨U, y, rfl⟩
  | nil => cases T <;> first | (exact absurd rfl (hs _)) | cases hc
  | own id ver => cases T <;> first | (exact absurd rfl (hs _)) | cases hc
  | sub id ver sv p => cases T <;> first | (exact absurd rfl (hs _)) | cases hc
  | _ => cases hc
theorem wcells_good (h : Fits en D B S a w) {w' : World} : ∀ {T : Ty} {x0 y : T.den} {l rest rest' : List AV} {S1 S2 : St} {c0 c1 : List Value} {b0 b1 : List (List Nat)} {X : List Nat}, T.flatIn = true → S.implode T l = some (x0, rest) → wcells T y l S1 = some (rest', S2) → AVReps (memOf en D B S w) l (c0 ++ c1) → (∀ v ∈ l, S.plainC v = true) →
    OwnO w' T y c0 b0 → bksOf B l = b0 ++ b1 → UpdI w' D B S S1 X → ∃ l0, l = l0 ++ rest ∧ rest' = rest ∧ AVReps (memOf en D B S w) rest c1 ∧ bksOf B rest = b1 ∧ UpdI w' D B S S2 (X ++ l0.flatMap AV.id1)
  | .pair ta tb, x0, y, l, rest, rest', S1, S2, c0, c1, b0, b1, X, hT, hi, hw, hr, hp, ho, hb, hU => by
    simp only [Ty.flatIn, Bool.and_eq_true] at hT
    simp only [St.implode] at hi
    simp only [wcells] at hw
    split at hi
    · rename_i x1 r1 hi1
      split at hi
      · rename_i x2 r2 hi2
        injection hi with hi; injection hi with e1 e2; subst e1; subst e2
        split at hw
        · rename_i q1 T1 hw1
          obtain ⟨ca, cb, ba, bb, rfl, rfl, ho1, ho2⟩ := ho
          rw [List.append_assoc] at hr hb
          obtain ⟨l0, e1, e2, e3, e4, e5⟩ := wcells_good h hT.1 hi1 hw1 hr hp ho1 hb hU
          subst e2
          obtain ⟨l1, f1, f2, f3, f4, f5⟩ := wcells_good h hT.2 hi2 hw e3 (fun v hv => hp v (by rw [e1]; exact List.mem_append_right _ hv)) ho2 e4 e5
          exact ⟨l0 ++ l1, by rw [e1, f1, List.append_assoc], f2, f3, f4, by rw [List.flatMap_append, ← List.append_assoc]; exact f5⟩
        · cases hw
      · cases hi
    · cases hi
  | .st ta, x0, y, l, rest, rest', S1, S2, c0, c1, b0, b1, X, hT, hi, hw, hr, hp, ho, hb, hU => wcells_good h (T := ta) hT hi hw hr hp ho hb hU
  | .arr n ta, x0, y, l, rest, rest', S1, S2, c0, c1, b0, b1, X, hT, hi, hw, hr, hp, ho, hb, hU => by cases hT
  | .int k, x0, y, l, rest, rest', S1, S2, c0, c1, b0, b1, X, hT, hi, hw, hr, hp, ho, hb, hU => by
    cases l with
    | nil => cases hi
    | cons v l =>
      simp only [St.implode, Option.map_eq_some_iff] at hi
      obtain ⟨z, hz, e⟩ := hi
      injection e with e1 e2; subst e1; subst e2
      injection hw with hw; injection hw with e1 e2; subst e1; subst e2
      obtain ⟨U, u, rfl⟩ := flat_cell hT (fun a e => by cases e) rfl rfl hz
      obtain ⟨hrep, rfl⟩ := ho
      have hc : c0 = [.int k y] := hrep
      subst hc
      obtain ⟨q, qs, e, _, k2⟩ := hr
      injection e with e1 e2; subst e1; subst e2
      exact ⟨[.val U u], rfl, rfl, k2, hb, by simpa [AV.id1] using hU⟩
  | .bool, x0, y, l, rest, rest', S1, S2, c0, c1, b0, b1, X, hT, hi, hw, hr, hp, ho, hb, hU => by
    cases l with
    | nil => cases hi
    | cons v l =>
      simp only [St.implode, Option.map_eq_some_iff] at hi
      obtain ⟨z, hz, e⟩ := hi
      injection e with e1 e2; subst e1; subst e2
      injection hw with hw; injection hw with e1 e2; subst e1; subst e2
      obtain ⟨U, u, rfl⟩ := flat_cell hT (fun a e => by cases e) rfl rfl hz
      obtain ⟨hrep, rfl⟩ := ho
      have hc : c0 = [.bool y] := hrep
      subst hc
      obtain ⟨q, qs, e, _, k2⟩ := hr
      injection e with e1 e2; subst e1; subst e2
      exact ⟨[.val U u], rfl, rfl, k2, hb, by simpa [AV.id1] using hU⟩
  | .str, x0, y, l, rest, rest', S1, S2, c0, c1, b0, b1, X, hT, hi, hw, hr, hp, ho, hb, hU => by
    cases l with
    | nil => cases hi
    | cons v l =>
      simp only [St.implode, Option.map_eq_some_iff] at hi
      obtain ⟨z, hz, e⟩ := hi
      injection e with e1 e2; subst e1; subst e2
      injection hw with hw; injection hw with e1 e2; subst e1; subst e2
      obtain ⟨U, u, rfl⟩ := flat_cell hT (fun a e => by cases e) rfl rfl hz
      obtain ⟨hrep, rfl⟩ := ho
      have hc : c0 = [.string y] := hrep
      subst hc
      obtain ⟨q, qs, e, _, k2⟩ := hr
      injection e with e1 e2; subst e1; subst e2
      exact ⟨[.val U u], rfl, rfl, k2, hb, by simpa [AV.id1] using hU⟩
  | .sl ta, x0, ys, l, rest, rest', S1, S2, c0, c1, b0, b1, X, hT, hi, hw, hr, hp, ho, hb, hU => by
    cases l with
    | nil => cases hi
    | cons v l =>
      simp only [St.implode, Option.map_eq_some_iff] at hi
      obtain ⟨z, hz, e⟩ := hi
      injection e with e1 e2; subst e1; subst e2
      obtain ⟨u, bk, rfl, hrow, rfl⟩ := ho
      obtain ⟨q, qs, e, k1, k2⟩ := hr
      injection e with e1 e2; subst e1; subst e2
      cases v with
      | nil =>
        simp only [wcells] at hw
        injection hw with hw; injection hw with e1 e2; subst e1; subst e2
        simp only [bksOf, List.cons_append, List.nil_append] at hb
        injection hb with hb1 hb2
        exact ⟨[.nil], rfl, rfl, k2, hb2, by simpa [AV.id1] using hU⟩
      | own id ver =>
        simp only [wcells] at hw
        injection hw with hw; injection hw with e1 e2; subst e1; subst e2
        simp only [bksOf, List.cons_append, List.nil_append] at hb
        injection hb with hb1 hb2
        subst hb1
        have hz : S.row? ta id ver = some z := hz
        obtain ⟨h1, h2⟩ := row?_some hz
        have key : ∃ b, S.hp id = ⟨ver, some b⟩ ∧ b.isRow = true ∧ ((b = .row ta z ∧ ta.hasSl = false) ∨ ∃ sv, b = .deep ta z sv) := by
          rcases h2 with h2 | ⟨sv, h2⟩
          · refine ⟨_, ?_, rfl, .inl ⟨rfl, ?_⟩⟩
            · cases hq : S.hp id with
              | mk v' b' => rw [hq] at h1 h2; simp only at h1 h2; rw [h1, h2]
            · have hv' : S.ownId id ver = true := hp (.own id ver) (by simp)
              unfold St.ownId St.blk? at hv'
              rw [h1, Nat.beq_refl, h2] at hv'
              simpa using hv'
          · refine ⟨_, ?_, rfl, .inr ⟨sv, rfl⟩⟩
            cases hq : S.hp id with
            | mk v' b' => rw [hq] at h1 h2; simp only at h1 h2; rw [h1, h2]
        obtain ⟨b, hS, hrow', hbb⟩ := key
        have eD : u = D id := own_val k1 (by show (S.hp id).ver = ver; rw [hS]) (by show (S.hp id).blk = some b; rw [hS]) hrow'
        have hlen : List.length (α := ta.den) z = List.length (α := ta.den) ys := by
          have h3 := h.blk id b (by rw [hS])
          obtain ⟨ad', c', g2, _⟩ := hrow
          injection g2 with g2
          rw [eD] at g2
          rcases hbb with ⟨hbb, _⟩ | ⟨sv, hbb⟩
          · subst hbb
            obtain ⟨ad, c, g1, _⟩ := h3
            have g1 : D id = .slice ad (List.length (α := ta.den) z) c := g1
            rw [g2] at g1
            injection g1 with _ g1 _
            exact g1.symm
          · subst hbb
            obtain ⟨ad, c, g1, _⟩ := h3
            injection g1 with g1
            have g1 : D id = .slice ad (List.length (α := ta.den) z) c := g1
            rw [g2] at g1
            injection g1 with _ g1 _
            exact g1.symm
        rw [eD] at hrow
        have hupd : UpdAt w' D B S (S1.set id ⟨ver, some (rowTo (S1.hp id).blk ta ys)⟩) id := by
          have hset : (S1.set id ⟨ver, some (rowTo (S1.hp id).blk ta ys)⟩).hp id = ⟨ver, some (rowTo (S1.hp id).blk ta ys)⟩ := by rw [set_hp, if_pos rfl]
          refine ⟨b, _, ver, hS, hset, ?_⟩
          have h1b : ∃ b1, (S1.hp id).blk = some b1 ∧ b.alike b1 := by
            rcases hU.all id with g | ⟨c0, c1, v', q1, q2, q3, _⟩
            · exact ⟨b, by rw [g, hS], Blk.alike_refl b⟩
            · rw [hS] at q1
              injection q1 with _ q1
              injection q1 with q1
              subst q1
              exact ⟨c1, by rw [q2], q3⟩
          obtain ⟨b1, hb1, hal⟩ := h1b
          rw [hb1]
          rcases hbb with ⟨hbb, hfl⟩ | ⟨sv, hbb⟩
          · subst hbb
            cases b1 with
            | box U q => exact hal.elim
            | deep U q sv => exact hal.elim
            | row U q =>
              refine ⟨⟨rfl, hlen⟩, (fun _ _ _ _ e1 _ => by cases e1), fun m hm hD hB => ?_⟩
              show RowRep m.w m.A (m.D id) ta ys (m.B id)
              rw [hm, hD, hB]
              exact RowRep_sub (fun k hk => hk.elim) ((OwnD_row hfl).1 hrow)
          · subst hbb
            cases b1 with
            | box U q => exact hal.elim
            | row U q => exact hal.elim
            | deep U q sv1 =>
              obtain ⟨_, _, hle⟩ := hal
              refine ⟨⟨rfl, hlen, by omega⟩, (fun T0 x0 s0 y0 e1 e2 => by
                injection e1 with _ _ e1
                injection e2 with _ _ e2
                omega), fun m hm hD hB => ?_⟩
              show OwnD m.w (.sl ta) ys [m.D id] (m.B id)
              rw [hm, hD, hB]
              exact hrow
        refine ⟨[.own id ver], rfl, rfl, k2, hb2, ⟨hU.tm, fun i => ?_, fun i hi => ?_⟩⟩
        · by_cases hid : i = id
          · subst hid; exact .inr hupd
          · rcases hU.all i with g | g
            · exact .inl (by rw [set_hp, if_neg hid]; exact g)
            · obtain ⟨p1, p2, v', q1, q2, q3⟩ := g
              exact .inr ⟨p1, p2, v', q1, by rw [set_hp, if_neg hid]; exact q2, q3⟩
        · by_cases hid : i = id
          · subst hid; exact hupd
          · have hX : i ∈ X := by
              rcases List.mem_append.1 hi with g | g
              · exact g
              · simp [AV.id1] at g; exact absurd g hid
            obtain ⟨p1, p2, v', q1, q2, q3⟩ := hU.done i hX
            exact ⟨p1, p2, v', q1, by rw [set_hp, if_neg hid]; exact q2, q3⟩
      | _ => cases hw
/-- Rows of one's own have been written behind one's back. -/
theorem Fits.inplace (h : Fits en D B S a w) {w' : World} {S' : St} {X : List Nat} {bl : List Nat} (hU : UpdI w' D B S S' X) (hb : BelowM (fun k => k ∈ bl) w.heap.size w w') (hbl : ∀ k ∈ bl, ∃ i ∈ X, k ∈ B i) : Fits en D B S' a w' := by
  have hsome : ∀ i, (S'.hp i).blk.isSome = (S.hp i).blk.isSome := by
    intro i
    rcases hU.all i with e | ⟨b, b', v, e1, e2, _⟩
    · rw [e]
    · rw [e1, e2]; rfl
  have hX : ∀ i ∈ X, (S.hp i).blk.isSome = true := by
    intro i hi
    obtain ⟨b, b', v, e1, _⟩ := hU.done i hi
    rw [e1]; rfl
  have htops : ∀ k, tops S' B k ↔ tops S B k := fun k => ⟨fun ⟨i, h1, h2⟩ => ⟨i, by rw [← hsome]; exact h1, h2⟩, fun ⟨i, h1, h2⟩ => ⟨i, by rw [hsome]; exact h1, h2⟩⟩
  have hsz := h.below.size
  have hAlt : ∀ k, (memOf en D B S w).A k → k < w.heap.size := by
    rintro k ⟨h1 | h1, _⟩
    · exact Nat.lt_of_lt_of_le (h.gl k h1) hsz
    · exact h1.2
  have hA : ∀ k, (memOf en D B S w).A k → (memOf en D B S' w').A k := by
    rintro k ⟨h1, h2⟩
    refine ⟨?_, fun ht => h2 ((htops k).1 ht)⟩
    rcases h1 with h1 | h1
    · exact .inl h1
    · exact .inr ⟨h1.1, Nat.lt_of_lt_of_le h1.2 hb.size⟩
  have hnot : ∀ k, (memOf en D B S w).A k → k ∉ bl := by
    intro k hk hm
    obtain ⟨i, hi, e⟩ := hbl k hm
    exact hk.2 ⟨i, hX i hi, e⟩
  have hw : ∀ k, (memOf en D B S w).A k → w'.heap[k]? = w.heap[k]? := fun k hk => hb.block k (hAlt k hk) (hnot k hk)
  have hs : ∀ i, SlotLe (memOf en D B S w) (memOf en D B S' w') i := by
    intro i
    rcases hU.all i with e | ⟨b0, b1, v, e1, e2, e3, e4, _⟩
    · by_cases hiX : i ∈ X
      · obtain ⟨b0, b1, v, e1, e2, e3, e4, _⟩ := hU.done i hiX
        refine .inr ⟨by show (S'.hp i).ver = (S.hp i).ver; rw [e1, e2], fun b hb' => ?_⟩
        have : (S'.hp i).blk = some b := hb'
        rw [e2] at this
        injection this with this
        subst this
        exact ⟨b0, by show (S.hp i).blk = _; rw [e1], e3, rfl, ⟨rfl, fun _ => rfl⟩, fun T xs sv ys q1 q2 => (e4 T xs sv ys q1 q2).elim⟩
      · refine SlotLe.same e rfl rfl (fun hs' k hk => ?_)
        have hs' : (S.hp i).blk.isSome = true := hs'
        refine hb.block k (h.lt i k hs' hk).2 (fun hbk => ?_)
        obtain ⟨j, hj, ej⟩ := hbl k hbk
        have := h.inj i j k hs' (hX j hj) hk ej
        subst this
        exact hiX hj
    · refine .inr ⟨by show (S'.hp i).ver = (S.hp i).ver; rw [e1, e2], fun b hb' => ?_⟩
      have : (S'.hp i).blk = some b := hb'
      rw [e2] at this
      injection this with this
      subst this
      exact ⟨b0, by show (S.hp i).blk = _; rw [e1], e3, rfl, ⟨rfl, fun _ => rfl⟩, fun T xs sv ys q1 q2 => (e4 T xs sv ys q1 q2).elim⟩
  refine h.step hU.tm ⟨hb.os, hb.tape, hb.output, hb.size, fun k hk hm => hb.block k (Nat.lt_of_lt_of_le hk hsz) (fun hbk => ?_)⟩ ?_ ?_ (fun i g1 => h.nd i (by rw [← hsome]; exact g1)) hA hw hs ?_
  · obtain ⟨i, hi, e⟩ := hbl k hbk
    rcases (h.lt i k (hX i hi) e).1 with g | g
    · exact hm g
    · omega
  · intro i k g1 g2
    rw [hsome] at g1
    have := h.lt i k g1 g2
    exact ⟨this.1, Nat.lt_of_lt_of_le this.2 hb.size⟩
  · intro i j k g1 g2 g3 g4
    rw [hsome] at g1 g2
    exact h.inj i j k g1 g2 g3 g4
  · intro i b hb'
    rcases hU.all i with e | ⟨b0, b1, v, e1, e2, e3, e4, e5⟩
    · by_cases hiX : i ∈ X
      · obtain ⟨b0, b1, v, e1, e2, e3, e4, e5⟩ := hU.done i hiX
        rw [e2] at hb'
        injection hb' with hb'
        subst hb'
        exact e5 _ rfl rfl rfl
      · rw [e] at hb'
        refine BlkRep_mono hA hw hs (fun k hk => hb.block k (h.lt i k (by rw [hb']; rfl) hk).2 (fun hbk => ?_)) rfl rfl (h.blk i b hb')
        obtain ⟨j, hj, ej⟩ := hbl k hbk
        have := h.inj i j k (by rw [hb']; rfl) (hX j hj) hk ej
        subst this
        exact hiX hj
    · rw [e2] at hb'
      injection hb' with hb'
      subst hb'
      exact e5 _ rfl rfl rfl
end
end Go.Ev
/- The evaluator's soundness, part 21: one operation, called or not; a region in the order of its text. -/
set_option linter.unusedSectionVars false
set_option linter.unusedVariables false
namespace Go.Ev
open Go Go.RowKit
section
variable {dr : Bool} {en : Ent} {D : Nat → Value} {B : Nat → List Nat} {S : St} {a : Act} {w : World} {o : Oper}
theorem wp_of_good {S' : St} {next : Act → World → Prop} {Q : Exit → Act → World → Prop} (hg : Good en o a S' ((execOp a.eval o).run en.P w)) (hn : ∀ D' B' a' w', Fits en D' B' S' a' w' → next a' w') : o.wp en.P a w next Q := by
  obtain ⟨w', hg⟩ := hg
  unfold Oper.wp
  rcases hg with ⟨v, hr, D', B', hF⟩ | ⟨hr, D', B', hF⟩
  · rw [hr, Oper.upon_value]; exact hn D' B' _ _ hF
  · rw [hr, Oper.upon_skip]; exact hn D' B' _ _ hF
theorem argsOf_good (hC : Types en.P en.cx.C) (h : Fits en D B S a w) {G' : Nat → Prop} : ∀ (tys : List Nat) (xs : List Operand) (as : List AV), argsOf en.cx S tys (xs.map (S.eval en.cx)) = some as →
    (∀ x ∈ xs, ∀ k, AX (memOf en D B S w) (capIds S (S.eval en.cx x)) k → G' k) → AVReps (argMem w G') as (xs.map a.eval)
  | [], [], as, ha, _ => by injection ha with ha; subst ha; rfl
  | [], _ :: _, as, ha, _ => by cases ha
  | _ :: _, [], as, ha, _ => by cases ha
  | t :: tys, x :: xs, as, ha, hG => by
    simp only [List.map_cons, argsOf] at ha
    split at ha
    · rename_i v vs hv hvs
      injection ha with ha; subst ha
      refine ⟨a.eval x, xs.map a.eval, rfl, ?_, argsOf_good hC h tys xs vs hvs (fun y hy => hG y (by simp [hy]))⟩
      have := argOf_good hC h (h.eval x) hv
      exact AVRep_mono (m := argMem w (AX (memOf en D B S w) (capIds S (S.eval en.cx x)))) (m' := argMem w G') (hG x (by simp)) (fun _ _ => rfl) (fun _ => .inr ⟨rfl, fun b' hb' => by cases hb'⟩) this
    · cases ha
theorem call_good {glob : Nat → AV} {E : Tbl} (hC : Types en.P en.cx.C) (hE : SoundE en.P glob E) (hglob : en.cx.G = glob) (hgl : ∀ g, AVRep (argMem en.w0 en.G) (glob g) (.pointer (some ⟨g, 0, none⟩))) (h : Fits en D B S a w) {c : Call} (ho : o.op = .call c) {f : Operand} (hf : c.callee = .value f)
    {n : Nat} {caps : List AV} (hfn : S.eval en.cx f = .fn n caps) {as cs : List AV} {t0 : Nat} {n' : Nat} (hnl : n < 1000000) (has : argsOf en.cx S c.argTypes.toList (c.args.toList.map (S.eval en.cx)) = some as) (hcs : argOf en.cx S t0 (.fn n caps) = some (.fn n' cs))
    {R : Type} {K : List Res → Option R} {r : R} (he : E n (as ++ cs) K = some r) {next : Act → World → Prop} {Q : Exit → Act → World → Prop}
    (hn : ∀ rs v w', K rs = some r → Below w.heap.size w w' → ResRep w w' (AX (memOf en D B S w) ((c.args.toList.map (S.eval en.cx)).flatMap (capIds S) ++ capIds S (.fn n caps))) rs v → next (a.put o.dst v) w') : o.wp en.P a w next Q := by
  obtain ⟨hcall, hk⟩ := (hE.ok n _ K r he).1 hnl
  have ef := h.eval f
  rw [hfn] at ef
  obtain ⟨us, hus, hcaps⟩ := ef
  have hGlt : ∀ k, AX (memOf en D B S w) ((c.args.toList.map (S.eval en.cx)).flatMap (capIds S) ++ capIds S (.fn n caps)) k → k < w.heap.size := by
    rintro k (hk | ⟨id, _, h2, h3⟩)
    · rcases hk.1 with h1 | h1
      · exact Nat.lt_of_lt_of_le (h.gl k h1) h.below.size
      · exact h1.2
    · exact (h.lt id k h2 h3).2
  have hargs := argsOf_good hC h (G' := AX (memOf en D B S w) ((c.args.toList.map (S.eval en.cx)).flatMap (capIds S) ++ capIds S (.fn n caps))) c.argTypes.toList c.args.toList as has (fun x hx => AX_mono (fun i hi => List.mem_append_left _ (flat_mem (List.mem_map.2 ⟨x, hx, rfl⟩) i hi)))
  have hfnrep := argOf_good hC h (v := .fn n caps) (x := .func (.func n) #[] us) ⟨us, rfl, hcaps⟩ hcs
  obtain ⟨us', e', hcs'⟩ := hfnrep
  injection e' with _ _ e'
  subst e'
  have hcs2 : AVReps (argMem w (AX (memOf en D B S w) ((c.args.toList.map (S.eval en.cx)).flatMap (capIds S) ++ capIds S (.fn n caps)))) cs us.toList :=
    AVReps_mono (m := argMem w (AX (memOf en D B S w) (capIds S (.fn n caps)))) (m' := argMem w (AX (memOf en D B S w) ((c.args.toList.map (S.eval en.cx)).flatMap (capIds S) ++ capIds S (.fn n caps)))) (AX_mono (fun i hi => List.mem_append_right _ hi)) (fun _ _ => rfl) (fun _ => .inr ⟨rfl, fun b' hb' => by cases hb'⟩) hcs'
  have hglob' : ∀ g, AVRep (argMem w (AX (memOf en D B S w) ((c.args.toList.map (S.eval en.cx)).flatMap (capIds S) ++ capIds S (.fn n caps)))) (glob g) (.pointer (some ⟨g, 0, none⟩)) := by
    intro g
    refine AVRep_mono (m := argMem en.w0 en.G) (m' := argMem w (AX (memOf en D B S w) ((c.args.toList.map (S.eval en.cx)).flatMap (capIds S) ++ capIds S (.fn n caps)))) (fun k hk => .inl ⟨.inl (.inl hk), fun ⟨id, h1, h2⟩ => ?_⟩) (fun k hk => h.below.block k (h.gl k (.inl hk)) (h.gm k hk)) (fun _ => .inr ⟨rfl, fun b' hb' => by cases hb'⟩) (hgl g)
    have h3 := h.gl k (.inl hk)
    rcases (h.lt id k h1 h2).1 with h4 | h4
    · exact h.gm k hk h4
    · omega
  have hcalls := hk w (c.args.toList.map a.eval ++ us.toList) _ hGlt (AVReps_append hargs hcs2) hglob'
  have hrun : (execOp a.eval o).run en.P w = .ok (.enter n (c.args.toList.map a.eval ++ us.toList).toArray) w := by
    unfold callable at hcall
    split at hcall
    · rename_i fn hfnn
      simp only [Bool.and_eq_true, Bool.not_eq_true'] at hcall
      have hcall := hcall.2
      have hbody : fn.body.isNone = false := by
        cases hb : fn.body with
        | none => rw [hb] at hcall; simp at hcall
        | some x => rfl
      have harr : (c.args.map a.eval ++ us) = (c.args.toList.map a.eval ++ us.toList).toArray := by
        apply Array.ext'; simp
      simp only [execOp, ho, resolve, hf, hus, Deferred.ofValue, Sem.run_bind, Sem.run_pure, Result.andThen_ok, invoke, callFunc, run_program, hfnn]
      rw [if_neg (by rw [hcall.1]; simp), if_neg (by rw [hbody]; simp)]
      simp only [Array.empty_append, Sem.run_pure, harr]
    · cases hcall
  unfold Oper.wp
  rw [hrun, Oper.upon_enter]
  refine hcalls.mono ?_
  rintro e w' ⟨rs, v, h1, rfl, h2, h3⟩
  exact hn rs v w' h1 h2 h3
/-! ### a call that writes what it is handed -/
def mks {β : Type} (m : Nat) (f : AV → List β) : Nat → List AV → List β
  | _, [] => []
  | j, v :: vs => (bif Nat.testBit m j then f v else []) ++ mks m f (j + 1) vs
def uks {β : Type} (m : Nat) (f : AV → List β) : Nat → List AV → List β
  | _, [] => []
  | j, v :: vs => (bif Nat.testBit m j then [] else f v) ++ uks m f (j + 1) vs
/-- One argument that is to be written. -/
theorem own_arg (h : Fits en D B S a w) {T : Ty} (hT : T.flatIn = true) (hpr : T.isPair = false) {v : AV} {x : T.den} {u : Value} (hv : AVRep (memOf en D B S w) v u) (hpl : S.plainOwn v = true) (hx : S.toVal T v = some x) : OwnVal w T x u (bksOf B (cellsIn v)) := by
  cases v with
  | agg l =>
    simp only [St.toVal] at hx
    split at hx
    · rename_i ta
      split at hx
      · rename_i x' hi
        injection hx with hx; subst hx
        obtain ⟨cs, rfl, h1, hr⟩ := hv
        have hp : ∀ v ∈ l, S.plainC v = true := fun v hv => List.all_eq_true.1 hpl v hv
        obtain ⟨l0, c0, c1, e1, e2, e3, e4⟩ := implode_own h (T := ta) hT hi hr hp
        rw [List.append_nil] at e1
        subst e1
        have e3' : c1 = [] := e3
        subst e3'
        rw [List.append_nil] at e2
        refine ⟨?_, fun _ => ⟨cs, rfl⟩, (fun h => by cases h), hpr, hT⟩
        show OwnO w ta _ cs.toList _
        rw [e2]
        exact e4
      · cases hx
    · cases hx
  | own id ver =>
    have hag : T.isAgg = false := by
      cases T <;> first | rfl | (cases hx)
    have hc : S.cell1 T (.own id ver) = some x := hx
    obtain ⟨⟨ad, n, c, rfl⟩, _⟩ := _root_.id hv
    refine ⟨?_, (fun h => by rw [hag] at h; cases h), fun _ => rfl, hpr, hT⟩
    exact cell_own h hT hag hpr hv hc hpl
  | nil =>
    have hag : T.isAgg = false := by
      cases T <;> first | rfl | (cases hx)
    have hc : S.cell1 T .nil = some x := hx
    obtain ⟨ad, rfl⟩ := _root_.id hv
    refine ⟨?_, (fun h => by rw [hag] at h; cases h), fun _ => rfl, hpr, hT⟩
    exact cell_own h hT hag hpr hv hc rfl
  | val U y =>
    have hs : U.hasSl = false := by simpa [St.plainOwn, St.plainC] using hpl
    have hx' : asTy T y = some x := hx
    obtain ⟨e, he⟩ := asTy_some hx'
    subst e; subst he
    have hr : ValRep w (memOf en D B S w).A U y u := hv
    cases hag : U.isAgg with
    | false =>
      have h1 : u.oneCell' = true ∧ u.cells.toList = [u] := by
        unfold ValRep at hr
        rw [hag] at hr
        cases U with
        | int k => cases hr; exact ⟨rfl, rfl⟩
        | bool => cases hr; exact ⟨rfl, rfl⟩
        | str => cases hr; exact ⟨rfl, rfl⟩
        | pair p q => cases hpr
        | st p => cases hag
        | arr n p => cases hT
        | sl p => cases hs
      refine ⟨?_, (fun h => by rw [hag] at h; cases h), fun _ => h1.1, hpr, hT⟩
      rw [h1.2]
      exact cell_own h hT hag hpr (v := .val U y) hv (x := castTy rfl y) (by show asTy U y = _; unfold asTy; rw [dif_pos rfl]) hpl
    | true =>
      have hr' : Rep w (memOf en D B S w).A U y u.cells.toList := ValRep_cells hpr hr
      have hO : ∀ (T : Ty) (x : T.den) (cs : List Value), T.flatIn = true → T.hasSl = false → Rep w (memOf en D B S w).A T x cs → OwnO w T x cs [] := by
        intro T
        induction T with
        | int k => intro x cs _ _ h; exact ⟨h, rfl⟩
        | bool => intro x cs _ _ h; exact ⟨h, rfl⟩
        | str => intro x cs _ _ h; exact ⟨h, rfl⟩
        | pair p q ihp ihq =>
          intro x cs hf hsl h
          simp only [Ty.flatIn, Ty.hasSl, Bool.and_eq_true, Bool.or_eq_false_iff] at hf hsl
          obtain ⟨c0, c1, e, h0, h1⟩ := h
          exact ⟨c0, c1, [], [], e, rfl, ihp _ _ hf.1 hsl.1 h0, ihq _ _ hf.2 hsl.2 h1⟩
        | st p ih => intro x cs hf hsl h; exact ih x cs hf hsl h
        | arr n p => intro x cs hf; cases hf
        | sl p => intro x cs _ hsl; cases hsl
      refine ⟨hO U y _ hT hs hr', fun _ => ?_, (fun h => by rw [hag] at h; cases h), hpr, hT⟩
      unfold ValRep at hr
      rw [hag] at hr
      obtain ⟨cs, e, _⟩ := hr
      exact ⟨cs, e⟩
  | _ => cases hpl
theorem inArgs_good (hC : Types en.P en.cx.C) (h : Fits en D B S a w) {m : Nat} {G' : Nat → Prop} : ∀ (j : Nat) (ts : List Nat) (xs : List Operand) (as : List AV), inArgs en.cx S m j ts (xs.map (S.eval en.cx)) = some as →
    (∀ k, AX (memOf en D B S w) (uks m (capIds S) j (xs.map (S.eval en.cx))) k → G' k) → InReps w G' m j as (xs.map a.eval) (mks m (fun v => bksOf B (cellsIn v)) j (xs.map (S.eval en.cx)))
  | j, [], [], as, ha, _ => by injection ha with ha; subst ha; exact ⟨rfl, rfl⟩
  | j, [], _ :: _, as, ha, _ => by cases ha
  | j, _ :: _, [], as, ha, _ => by cases ha
  | j, t :: ts, x :: xs, as, ha, hG => by
    simp only [List.map_cons, inArgs] at ha
    cases hb : Nat.testBit m j with
    | true =>
      rw [hb] at ha
      simp only [cond_true] at ha
      split at ha
      · rename_i T hT
        cases hf : (T.flatIn && S.plainOwn (S.eval en.cx x)) with
        | false => rw [hf] at ha; cases ha
        | true =>
          rw [hf] at ha
          simp only [cond_true] at ha
          simp only [Bool.and_eq_true] at hf
          split at ha
          · rename_i y r hy hr
            injection ha with ha; subst ha
            refine ⟨a.eval x, xs.map a.eval, rfl, fun _ => ⟨T, y, bksOf B (cellsIn (S.eval en.cx x)), mks m (fun v => bksOf B (cellsIn v)) (j + 1) (xs.map (S.eval en.cx)), rfl, ?_, own_arg h hf.1 (hC.ok t T hT).isPair (h.eval x) hf.2 hy, ?_⟩, fun hn => by rw [hb] at hn; cases hn⟩
            · simp only [List.map_cons, mks, hb, cond_true]
            · exact inArgs_good hC h (j + 1) ts xs r hr (fun k hk => hG k (by simp only [List.map_cons, uks, hb, cond_true, List.nil_append]; exact hk))
          · cases ha
      · cases ha
    | false =>
      rw [hb] at ha
      simp only [cond_false] at ha
      split at ha
      · rename_i y r hy hr
        injection ha with ha; subst ha
        refine ⟨a.eval x, xs.map a.eval, rfl, (fun hn => by rw [hb] at hn; cases hn), fun _ => ⟨?_, ?_⟩⟩
        · have := argOf_good hC h (h.eval x) hy
          refine AVRep_mono (m := argMem w (AX (memOf en D B S w) (capIds S (S.eval en.cx x)))) (m' := argMem w G') (fun k hk => hG k (AX_mono (fun i hi => ?_) k hk)) (fun _ _ => rfl) (fun _ => .inr ⟨rfl, fun b' hb' => by cases hb'⟩) this
          simp only [List.map_cons, uks, hb, cond_false]
          exact List.mem_append_left _ hi
        · have : mks m (fun v => bksOf B (cellsIn v)) j ((x :: xs).map (S.eval en.cx)) = mks m (fun v => bksOf B (cellsIn v)) (j + 1) (xs.map (S.eval en.cx)) := by
            simp only [List.map_cons, mks, hb, cond_false, List.nil_append]
          rw [this]
          exact inArgs_good hC h (j + 1) ts xs r hr (fun k hk => hG k (AX_mono (fun i hi => by simp only [List.map_cons, uks, hb, cond_false]; exact List.mem_append_right _ hi) k hk))
      · cases ha
theorem UpdI.mono {w' : World} {S1 : St} {X Y : List Nat} (h : UpdI w' D B S S1 X) (hs : ∀ i ∈ Y, i ∈ X) : UpdI w' D B S S1 Y := ⟨h.tm, h.all, fun i hi => h.done i (hs i hi)⟩
theorem wcells_flat : ∀ {T : Ty} {y : T.den} {l rest : List AV} {S1 S2 : St}, T.flatIn = true → (∀ v ∈ l, ∃ U z, v = .val U z) → wcells T y l S1 = some (rest, S2) → S2 = S1 ∧ ∀ v ∈ rest, v ∈ l
  | .pair p q, y, l, rest, S1, S2, hT, hl, hw => by
    simp only [Ty.flatIn, Bool.and_eq_true] at hT
    simp only [wcells] at hw
    split at hw
    · rename_i r1 T1 h1
      obtain ⟨e1, e2⟩ := wcells_flat hT.1 hl h1
      subst e1
      obtain ⟨e3, e4⟩ := wcells_flat hT.2 (fun v hv => hl v (e2 v hv)) hw
      exact ⟨e3, fun v hv => e2 v (e4 v hv)⟩
    · cases hw
  | .st p, y, l, rest, S1, S2, hT, hl, hw => wcells_flat (T := p) hT hl hw
  | .arr n p, y, l, rest, S1, S2, hT, hl, hw => by cases hT
  | .int k, y, l, rest, S1, S2, hT, hl, hw => by
    cases l with
    | nil => cases hw
    | cons v l => injection hw with hw; injection hw with e1 e2; subst e1; subst e2; exact ⟨rfl, fun v hv => List.mem_cons_of_mem _ hv⟩
  | .bool, y, l, rest, S1, S2, hT, hl, hw => by
    cases l with
    | nil => cases hw
    | cons v l => injection hw with hw; injection hw with e1 e2; subst e1; subst e2; exact ⟨rfl, fun v hv => List.mem_cons_of_mem _ hv⟩
  | .str, y, l, rest, S1, S2, hT, hl, hw => by
    cases l with
    | nil => cases hw
    | cons v l => injection hw with hw; injection hw with e1 e2; subst e1; subst e2; exact ⟨rfl, fun v hv => List.mem_cons_of_mem _ hv⟩
  | .sl p, y, l, rest, S1, S2, hT, hl, hw => by
    cases l with
    | nil => cases hw
    | cons v l =>
      obtain ⟨U, z, rfl⟩ := hl v (by simp)
      cases hw
/-- One argument that has been written. -/
theorem back_arg (h : Fits en D B S a w) {w' : World} {T : Ty} (hT : T.flatIn = true) {v : AV} {x y : T.den} {u : Value} (hv : AVRep (memOf en D B S w) v u) (hpl : S.plainOwn v = true) (hx : S.toVal T v = some x) {S1 S2 : St} {X : List Nat} (hU : UpdI w' D B S S1 X) (hw : wcells T y (cellsIn v) S1 = some ([], S2))
    (ho : OwnO w' T y u.cells.toList (bksOf B (cellsIn v))) : UpdI w' D B S S2 (X ++ v.ids) := by
  cases v with
  | agg l =>
    simp only [St.toVal] at hx
    split at hx
    · rename_i ta
      split at hx
      · rename_i x' hi
        obtain ⟨cs, rfl, h1, hr⟩ := hv
        have hp : ∀ v ∈ l, S.plainC v = true := fun v hv => List.all_eq_true.1 hpl v hv
        have ho' : OwnO w' ta y cs.toList (bksOf B l) := ho
        obtain ⟨l0, e1, _, _, _, e5⟩ := wcells_good h (T := ta) (c0 := cs.toList) (c1 := []) (b0 := bksOf B l) (b1 := []) hT hi hw (by rw [List.append_nil]; exact hr) hp ho' (by rw [List.append_nil]) hU
        rw [List.append_nil] at e1
        subst e1
        exact e5
      · cases hx
    · cases hx
  | own id ver =>
    have hi : S.implode T [.own id ver] = some (x, []) := by
      cases T with
      | sl p => show (S.cell1 (.sl p) (.own id ver)).map (fun x => (x, [])) = _; have hx : S.cell1 (.sl p) (.own id ver) = some x := hx; rw [hx]; rfl
      | _ => cases hx
    obtain ⟨⟨ad, n, c, rfl⟩, _⟩ := _root_.id hv
    obtain ⟨l0, e1, _, _, _, e5⟩ := wcells_good h (c0 := [Value.slice ad n c]) (c1 := []) (b0 := bksOf B [.own id ver]) (b1 := []) hT hi hw ⟨_, [], rfl, hv, rfl⟩ (fun v hv => by rw [List.mem_singleton.1 hv]; exact hpl) ho (by rw [List.append_nil]) hU
    rw [List.append_nil] at e1
    subst e1
    exact e5
  | nil =>
    have hi : S.implode T [.nil] = some (x, []) := by
      cases T with
      | sl p => show (S.cell1 (.sl p) .nil).map (fun x => (x, [])) = _; have hx : S.cell1 (.sl p) .nil = some x := hx; rw [hx]; rfl
      | _ => cases hx
    obtain ⟨ad, rfl⟩ := _root_.id hv
    obtain ⟨l0, e1, _, _, _, e5⟩ := wcells_good h (c0 := [Value.slice ad 0 0]) (c1 := []) (b0 := bksOf B [.nil]) (b1 := []) hT hi hw ⟨_, [], rfl, hv, rfl⟩ (fun v hv => by rw [List.mem_singleton.1 hv]; rfl) ho (by rw [List.append_nil]) hU
    rw [List.append_nil] at e1
    subst e1
    exact e5
  | val U z =>
    obtain ⟨e, _⟩ := wcells_flat (l := [.val U z]) hT (fun v hv => ⟨U, z, List.mem_singleton.1 hv⟩) hw
    subst e
    show UpdI w' D B S S2 (X ++ [])
    rw [List.append_nil]
    exact hU
  | _ => cases hpl
/-- What they hold behind it. -/
theorem inBack_good (hC : Types en.P en.cx.C) (h : Fits en D B S a w) {w' : World} {m : Nat} {rets : List Res} {dst : Option Nat} : ∀ (j : Nat) (ts : List Nat) (xs : List Operand) (as : List AV) (rs : List Res) (bs : List (List Nat)) (S1 S2 : St) (X : List Nat),
    inArgs en.cx S m j ts (xs.map (S.eval en.cx)) = some as → NewReps w' m rets j as (xs.map a.eval) rs bs → bs = mks m (fun v => bksOf B (cellsIn v)) j (xs.map (S.eval en.cx)) → UpdI w' D B S S1 X → inBack dst m j (xs.map (S.eval en.cx)) rs S1 = some S2 →
    rets.all (fun r => !r.T.hasSl) = true ∧ ∃ S3, UpdI w' D B S S3 (X ++ mks m AV.ids j (xs.map (S.eval en.cx))) ∧ S2 = (match rets with
      | [r] => S3.put? dst (.val r.T r.x)
      | rs => S3.put? dst (.tup (rs.map fun r => .val r.T r.x)))
  | j, [], [], as, rs, bs, S1, S2, X, ha, hn, hbs, hU, hi => by
    injection ha with ha; subst ha
    obtain ⟨_, _, rfl⟩ := hn
    simp only [List.map_nil, inBack] at hi
    cases hf : rs.all (fun r => !r.T.hasSl) with
    | false => rw [hf] at hi; cases hi
    | true =>
      rw [hf] at hi
      injection hi with hi
      exact ⟨rfl, S1, by simpa [mks] using hU, hi.symm⟩
  | j, [], _ :: _, as, rs, bs, S1, S2, X, ha, hn, hbs, hU, hi => by cases ha
  | j, _ :: _, [], as, rs, bs, S1, S2, X, ha, hn, hbs, hU, hi => by cases ha
  | j, t :: ts, x :: xs, as, rs, bs, S1, S2, X, ha, hn, hbs, hU, hi => by
    simp only [List.map_cons, inArgs] at ha
    simp only [List.map_cons, inBack] at hi
    simp only [List.map_cons, mks] at hbs ⊢
    cases hb : Nat.testBit m j with
    | true =>
      rw [hb] at ha hi hbs
      simp only [cond_true] at ha hi hbs ⊢
      split at ha
      · rename_i T hT
        cases hf : (T.flatIn && S.plainOwn (S.eval en.cx x)) with
        | false => rw [hf] at ha; cases ha
        | true =>
          rw [hf] at ha
          simp only [cond_true] at ha
          simp only [Bool.and_eq_true] at hf
          split at ha
          · rename_i y r hy hr
            injection ha with ha; subst ha
            obtain ⟨v0, vs0, e0, hn1, _⟩ := hn
            injection e0 with e0 e00
            subst e0; subst e00
            obtain ⟨T', x', y', o', rs', b0, b1, e1, e2, e3, e4, e5⟩ := hn1 hb
            injection e1 with e1 e11
            subst e1
            cases e11
            subst e2
            simp only at hi
            split at hi
            · rename_i S' hw
              have hlen : b0.length = (bksOf B (cellsIn (S.eval en.cx x))).length := by
                rw [OwnO_nsl e4.1]
                exact (OwnO_nsl (own_arg h hf.1 (hC.ok t T hT).isPair (h.eval x) hf.2 hy).1).symm
              rw [e3] at hbs
              obtain ⟨g1, g2⟩ := List.append_inj hbs hlen
              rw [g1] at e4
              have hU' := back_arg h hf.1 (h.eval x) hf.2 hy hU hw e4.1
              obtain ⟨k1, S3, k2, k3⟩ := inBack_good hC h (j + 1) ts xs r rs' b1 S' S2 _ hr e5 g2 hU' hi
              exact ⟨k1, S3, by rw [← List.append_assoc]; exact k2, k3⟩
            · cases hi
          · cases ha
      · cases ha
    | false =>
      rw [hb] at ha hi hbs
      simp only [cond_false, List.nil_append] at ha hi hbs ⊢
      split at ha
      · rename_i y r hy hr
        injection ha with ha; subst ha
        obtain ⟨v0, vs0, e0, _, hn1⟩ := hn
        injection e0 with e0 e00
        subst e0; subst e00
        exact inBack_good hC h (j + 1) ts xs r rs bs S1 S2 X hr (hn1 hb) hbs hU hi
      · cases ha
theorem distinctI_nodup : ∀ {l : List Nat}, distinctI l = true → l.Nodup
  | [], _ => List.nodup_nil
  | a :: l, h => by
    simp only [distinctI, Bool.and_eq_true, Bool.not_eq_true'] at h
    refine List.nodup_cons.2 ⟨fun hm => ?_, distinctI_nodup h.2⟩
    have : l.any (fun b => Nat.beq a b) = true := List.any_eq_true.2 ⟨a, hm, Nat.beq_refl a⟩
    rw [h.1] at this
    cases this
theorem ids_cells (v : AV) : v.ids = (cellsIn v).flatMap AV.id1 := by
  cases v <;> simp [AV.ids, cellsIn, AV.id1]
theorem blocks_app (x y : List (List Nat)) : blocks (x ++ y) = blocks x ++ blocks y := by unfold blocks; rw [List.flatten_append]
theorem blocks_bks (S : St) (B : Nat → List Nat) : ∀ l : List AV, (∀ v ∈ l, S.plainC v = true) → blocks (bksOf B l) = (l.flatMap AV.id1).flatMap B
  | [], _ => rfl
  | v :: l, hp => by
    have ih := blocks_bks S B l (fun v hv => hp v (by simp [hv]))
    rw [List.flatMap_cons, List.flatMap_append, ← ih]
    have hv := hp v (by simp)
    cases v with
    | own id ver =>
      show blocks (B id :: bksOf B l) = ([id] : List Nat).flatMap B ++ _
      simp [blocks]
    | nil => simp [bksOf, blocks, AV.id1]
    | val T x => simp [bksOf, AV.id1]
    | _ => cases hv
theorem plain_cells {v : AV} (hv : S.plainOwn v = true) : ∀ u ∈ cellsIn v, S.plainC u = true := by
  cases v with
  | agg l => exact fun u hu => List.all_eq_true.1 hv u hu
  | _ => intro u hu; rw [List.mem_singleton.1 hu]; exact hv
theorem blocks_mks (m : Nat) : ∀ (j : Nat) (ts : List Nat) (l as : List AV), inArgs en.cx S m j ts l = some as → blocks (mks m (fun v => bksOf B (cellsIn v)) j l) = (mks m AV.ids j l).flatMap B
  | j, [], [], as, _ => rfl
  | j, [], _ :: _, as, ha => by cases ha
  | j, _ :: _, [], as, ha => by cases ha
  | j, t :: ts, v :: l, as, ha => by
    simp only [inArgs] at ha
    simp only [mks]
    rw [blocks_app, List.flatMap_append]
    cases hb : Nat.testBit m j with
    | true =>
      rw [hb] at ha
      simp only [cond_true] at ha ⊢
      split at ha
      · rename_i T hT
        cases hf : (T.flatIn && S.plainOwn v) with
        | false => rw [hf] at ha; cases ha
        | true =>
          rw [hf] at ha
          simp only [cond_true] at ha
          simp only [Bool.and_eq_true] at hf
          split at ha
          · rename_i y r hy hr
            rw [blocks_mks m (j + 1) ts l r hr, blocks_bks S B _ (plain_cells hf.2), ← ids_cells]
          · cases ha
      · cases ha
    | false =>
      rw [hb] at ha
      simp only [cond_false] at ha ⊢
      split at ha
      · rename_i y r hy hr
        rw [blocks_mks m (j + 1) ts l r hr]; rfl
      · cases ha
theorem mks_sub {β : Type} (m : Nat) (f : AV → List β) : ∀ (j : Nat) (l : List AV), ∀ i ∈ mks m f j l, i ∈ l.flatMap f
  | j, [], i, h => by cases h
  | j, v :: l, i, h => by
    simp only [mks] at h
    rw [List.flatMap_cons]
    rcases List.mem_append.1 h with h | h
    · refine List.mem_append_left _ ?_
      cases hb : Nat.testBit m j <;> rw [hb] at h
      · cases h
      · exact h
    · exact List.mem_append_right _ (mks_sub m f (j + 1) l i h)
theorem uks_sub {β : Type} (m : Nat) (f : AV → List β) : ∀ (j : Nat) (l : List AV), ∀ i ∈ uks m f j l, i ∈ l.flatMap f
  | j, [], i, h => by cases h
  | j, v :: l, i, h => by
    simp only [uks] at h
    rw [List.flatMap_cons]
    rcases List.mem_append.1 h with h | h
    · refine List.mem_append_left _ ?_
      cases hb : Nat.testBit m j <;> rw [hb] at h
      · exact h
      · cases h
    · exact List.mem_append_right _ (uks_sub m f (j + 1) l i h)
theorem mks_apart {β : Type} (m : Nat) (f : AV → List β) : ∀ (j : Nat) (l : List AV), (l.flatMap f).Nodup → (mks m f j l).Nodup ∧ ∀ i ∈ mks m f j l, i ∉ uks m f j l
  | j, [], _ => ⟨List.nodup_nil, fun i h => by cases h⟩
  | j, v :: l, hn => by
    rw [List.flatMap_cons, List.nodup_append] at hn
    obtain ⟨n1, n2, n3⟩ := hn
    obtain ⟨k1, k2⟩ := mks_apart m f (j + 1) l n2
    simp only [mks, uks]
    cases Nat.testBit m j with
    | true =>
      simp only [cond_true, List.nil_append]
      refine ⟨List.nodup_append.2 ⟨n1, k1, fun x hx y hy => n3 x hx y (mks_sub m f _ _ y hy)⟩, fun i hi hu => ?_⟩
      rcases List.mem_append.1 hi with hi | hi
      · exact n3 i hi i (uks_sub m f _ _ i hu) rfl
      · exact k2 i hi hu
    | false =>
      simp only [cond_false, List.nil_append]
      refine ⟨k1, fun i hi hu => ?_⟩
      rcases List.mem_append.1 hu with hu | hu
      · exact n3 i hu i (mks_sub m f _ _ i hi) rfl
      · exact k2 i hi hu
theorem implode_alive : ∀ {T : Ty} {l rest : List AV} {x : T.den}, S.implode T l = some (x, rest) → ∃ l0, l = l0 ++ rest ∧ ∀ i ∈ l0.flatMap AV.id1, (S.hp i).blk.isSome = true
  | .pair p q, l, rest, x, h => by
    simp only [St.implode] at h
    split at h
    · rename_i y r1 h1
      split at h
      · rename_i z r2 h2
        injection h with h; injection h with e1 e2; subst e2
        obtain ⟨l0, f1, g1⟩ := implode_alive h1
        obtain ⟨l1, f2, g2⟩ := implode_alive h2
        exact ⟨l0 ++ l1, by rw [f1, f2, List.append_assoc], fun i hi => by rw [List.flatMap_append] at hi; rcases List.mem_append.1 hi with hi | hi; exact g1 i hi; exact g2 i hi⟩
      · cases h
    · cases h
  | .st p, l, rest, x, h => implode_alive (T := p) h
  | .arr n p, l, rest, x, h => by cases h
  | .int k, l, rest, x, h => by
    cases l with
    | nil => cases h
    | cons v l =>
      simp only [St.implode, Option.map_eq_some_iff] at h
      obtain ⟨z, hz, e⟩ := h
      injection e with e1 e2; subst e2
      refine ⟨[v], rfl, fun i hi => ?_⟩
      cases v <;> first | (cases hz) | (simp [AV.id1] at hi)
  | .bool, l, rest, x, h => by
    cases l with
    | nil => cases h
    | cons v l =>
      simp only [St.implode, Option.map_eq_some_iff] at h
      obtain ⟨z, hz, e⟩ := h
      injection e with e1 e2; subst e2
      refine ⟨[v], rfl, fun i hi => ?_⟩
      cases v <;> first | (cases hz) | (simp [AV.id1] at hi)
  | .str, l, rest, x, h => by
    cases l with
    | nil => cases h
    | cons v l =>
      simp only [St.implode, Option.map_eq_some_iff] at h
      obtain ⟨z, hz, e⟩ := h
      injection e with e1 e2; subst e2
      refine ⟨[v], rfl, fun i hi => ?_⟩
      cases v <;> first | (cases hz) | (simp [AV.id1] at hi)
  | .sl p, l, rest, x, h => by
    cases l with
    | nil => cases h
    | cons v l =>
      simp only [St.implode, Option.map_eq_some_iff] at h
      obtain ⟨z, hz, e⟩ := h
      injection e with e1 e2; subst e2
      refine ⟨[v], rfl, fun i hi => ?_⟩
      cases v with
      | own id ver =>
        simp [AV.id1] at hi
        subst hi
        have hz : S.row? p i ver = some z := hz
        rcases (row?_some hz).2 with hb | ⟨sv, hb⟩ <;> rw [hb] <;> rfl
      | sub id ver sv q =>
        simp [AV.id1] at hi
        subst hi
        have hz : S.sub? p i ver sv q = some z := hz
        unfold St.sub? at hz
        split at hz
        · rename_i hb; rw [(blk?_some hb).2]; rfl
        · cases hz
      | _ => simp [AV.id1] at hi
theorem arg_alive {T : Ty} {v : AV} {x : T.den} (hpl : S.plainOwn v = true) (hx : S.toVal T v = some x) : ∀ i ∈ v.ids, (S.hp i).blk.isSome = true := by
  cases v with
  | agg l =>
    simp only [St.toVal] at hx
    split at hx
    · rename_i ta
      split at hx
      · rename_i x' hi
        obtain ⟨l0, e, g⟩ := implode_alive (T := ta) hi
        rw [List.append_nil] at e
        subst e
        exact g
      · cases hx
    · cases hx
  | own id ver =>
    intro i hi
    have hi : i = id := by simpa [AV.ids] using hi
    subst hi
    cases T with
    | sl p =>
      have hz : S.row? p i ver = some x := hx
      rcases (row?_some hz).2 with hb | ⟨sv, hb⟩ <;> rw [hb] <;> rfl
    | _ => cases hx
  | nil => intro i hi; cases hi
  | val U y => intro i hi; cases hi
  | _ => cases hpl
theorem mks_alive {m : Nat} : ∀ (j : Nat) (ts : List Nat) (avs as : List AV), inArgs en.cx S m j ts avs = some as → (∀ i ∈ mks m AV.ids j avs, (S.hp i).blk.isSome = true) ∧ mks m (capIds S) j avs = mks m AV.ids j avs
  | j, [], [], as, _ => ⟨fun i h => (by cases h), rfl⟩
  | j, [], _ :: _, as, ha => by cases ha
  | j, _ :: _, [], as, ha => by cases ha
  | j, t :: ts, v :: avs, as, ha => by
    simp only [inArgs] at ha
    simp only [mks]
    cases hb : Nat.testBit m j with
    | true =>
      rw [hb] at ha
      simp only [cond_true] at ha ⊢
      split at ha
      · rename_i T hT
        cases hf : (T.flatIn && S.plainOwn v) with
        | false => rw [hf] at ha; cases ha
        | true =>
          rw [hf] at ha
          simp only [cond_true] at ha
          simp only [Bool.and_eq_true] at hf
          split at ha
          · rename_i y r hy hr
            obtain ⟨k1, k2⟩ := mks_alive (j + 1) ts avs r hr
            have hc : capIds S v = v.ids := ids_cap (fun f caps e => by rw [e] at hf; cases hf.2)
            refine ⟨fun i hi => ?_, by rw [k2, hc]⟩
            rcases List.mem_append.1 hi with hi | hi
            · exact arg_alive hf.2 hy i hi
            · exact k1 i hi
          · cases ha
      · cases ha
    | false =>
      rw [hb] at ha
      simp only [cond_false, List.nil_append] at ha ⊢
      split at ha
      · rename_i y r hy hr
        exact mks_alive (j + 1) ts avs r hr
      · cases ha
theorem flat_reps {m : Mem} {w' : World} (hw : m.w = w') : ∀ (rets : List Res) (vs : List Value), FlatReps w' rets vs → AVReps m (rets.map fun r => .val r.T r.x) vs
  | [], vs, h => h
  | r :: rs, vs, h => by
    obtain ⟨v, vs', rfl, h1, h2⟩ := h
    refine ⟨v, vs', rfl, ?_, flat_reps hw rs vs' h2⟩
    show ValRep m.w m.A r.T r.x v
    rw [hw]
    exact ValRep_sub (fun k hk => hk.elim) h1
theorem callI_good {glob : Nat → AV} {E : Tbl} (hC : Types en.P en.cx.C) (hE : SoundE en.P glob E) (hglob : en.cx.G = glob) (hgl : ∀ g, AVRep (argMem en.w0 en.G) (glob g) (.pointer (some ⟨g, 0, none⟩))) (h : Fits en D B S a w) {c : Call} (ho : o.op = .call c) {n m : Nat} (hf : c.callee = .value (.func n)) (hm : m ≠ 0)
    {R : Type} {K : St → Option R} {r : R} (he : evIn E en.cx c o.dst S n m K = some r) {next : Act → World → Prop} {Q : Exit → Act → World → Prop}
    (hn : ∀ S' D' B' a' w', K S' = some r → Fits en D' B' S' a' w' → next a' w') : o.wp en.P a w next Q := by
  unfold evIn at he
  split at he
  · rename_i as has
    cases hd : (distinctI ((c.args.toList.map (S.eval en.cx)).flatMap (capIds S)) && Nat.blt n 1000000) with
    | false => rw [hd] at he; cases he
    | true =>
      rw [hd] at he
      simp only [cond_true] at he
      simp only [Bool.and_eq_true, Nat.blt_eq] at hd
      obtain ⟨hdis, hlt⟩ := hd
      obtain ⟨hcall, hk⟩ := (hE.ok (n + 1000000 * m) as _ r he).2 (by omega)
      rw [show (n + 1000000 * m) % 1000000 = n by omega] at hcall
      rw [show (n + 1000000 * m) % 1000000 = n by omega, show (n + 1000000 * m) / 1000000 = m by omega] at hk
      obtain ⟨halive, hcaps⟩ := mks_alive 0 _ _ _ has
      obtain ⟨hnd, hap⟩ := mks_apart m (capIds S) 0 (c.args.toList.map (S.eval en.cx)) (distinctI_nodup hdis)
      rw [hcaps] at hnd hap
      have hbl : blocks (mks m (fun v => bksOf B (cellsIn v)) 0 (c.args.toList.map (S.eval en.cx))) = (mks m AV.ids 0 (c.args.toList.map (S.eval en.cx))).flatMap B := blocks_mks m 0 _ _ _ has
      have hGlt : ∀ k, AX (memOf en D B S w) (uks m (capIds S) 0 (c.args.toList.map (S.eval en.cx))) k → k < w.heap.size := by
        rintro k (hk | ⟨id, _, h2, h3⟩)
        · rcases hk.1 with h1 | h1
          · exact Nat.lt_of_lt_of_le (h.gl k h1) h.below.size
          · exact h1.2
        · exact (h.lt id k h2 h3).2
      have hblk : ∀ k ∈ blocks (mks m (fun v => bksOf B (cellsIn v)) 0 (c.args.toList.map (S.eval en.cx))), ∃ i ∈ mks m AV.ids 0 (c.args.toList.map (S.eval en.cx)), k ∈ B i := by
        intro k hk
        rw [hbl] at hk
        exact List.mem_flatMap.1 hk
      have hnot : ∀ k ∈ blocks (mks m (fun v => bksOf B (cellsIn v)) 0 (c.args.toList.map (S.eval en.cx))), k < w.heap.size ∧ ¬ AX (memOf en D B S w) (uks m (capIds S) 0 (c.args.toList.map (S.eval en.cx))) k := by
        intro k hk
        obtain ⟨i, hi, e⟩ := hblk k hk
        refine ⟨(h.lt i k (halive i hi) e).2, ?_⟩
        rintro (hA | ⟨id, g1, g2, g3⟩)
        · exact hA.2 ⟨i, halive i hi, e⟩
        · have := h.inj id i k g2 (halive i hi) g3 e
          subst this
          exact hap id hi g1
      have hnodup : (blocks (mks m (fun v => bksOf B (cellsIn v)) 0 (c.args.toList.map (S.eval en.cx)))).Nodup := by
        rw [hbl]
        exact blocks_nodup h hnd halive
      have hglob' : ∀ g, AVRep (argMem w (AX (memOf en D B S w) (uks m (capIds S) 0 (c.args.toList.map (S.eval en.cx))))) (glob g) (.pointer (some ⟨g, 0, none⟩)) := by
        intro g
        refine AVRep_mono (m := argMem en.w0 en.G) (m' := argMem w (AX (memOf en D B S w) (uks m (capIds S) 0 (c.args.toList.map (S.eval en.cx))))) (fun k hk => .inl ⟨.inl (.inl hk), fun ⟨id, h1, h2⟩ => ?_⟩) (fun k hk => h.below.block k (h.gl k (.inl hk)) (h.gm k hk)) (fun _ => .inr ⟨rfl, fun b' hb' => by cases hb'⟩) (hgl g)
        have h3 := h.gl k (.inl hk)
        rcases (h.lt id k h1 h2).1 with h4 | h4
        · exact h.gm k hk h4
        · omega
      have hcalls := hk w (c.args.toList.map a.eval) _ _ hGlt hnot hnodup (inArgs_good hC h 0 _ _ _ has (fun k hk => hk)) hglob'
      have ef := h.eval (.func n)
      have hrun : (execOp a.eval o).run en.P w = .ok (.enter n (c.args.toList.map a.eval).toArray) w := by
        obtain ⟨us, hus, hu0⟩ := ef
        have hu0 : us.toList = [] := hu0
        have hu1 : us = #[] := by apply Array.ext'; rw [hu0]
        subst hu1
        unfold callable at hcall
        split at hcall
        · rename_i fn hfnn
          simp only [Bool.and_eq_true, Bool.not_eq_true'] at hcall
          have hcall := hcall.2
          have hbody : fn.body.isNone = false := by
            cases hb : fn.body with
            | none => rw [hb] at hcall; simp at hcall
            | some x => rfl
          have harr : (c.args.map a.eval) = (c.args.toList.map a.eval).toArray := by
            apply Array.ext'; simp
          simp only [execOp, ho, resolve, hf, hus, Deferred.ofValue, Sem.run_bind, Sem.run_pure, Result.andThen_ok, invoke, callFunc, run_program, hfnn]
          rw [if_neg (by rw [hcall.1]; simp), if_neg (by rw [hbody]; simp)]
          simp only [Array.empty_append, Array.append_empty, Sem.run_pure, harr]
        · cases hcall
      unfold Oper.wp
      rw [hrun, Oper.upon_enter]
      refine hcalls.mono ?_
      rintro e w' ⟨rs, rets, v, h1, rfl, h2, h3, h4⟩
      obtain ⟨S2, hi, hK⟩ := Option.bind_eq_some_iff.1 h1
      obtain ⟨hfl, S3, hU, e2⟩ := inBack_good hC h 0 _ _ _ rs _ S S2 [] has h3 rfl UpdI.refl hi
      rw [List.nil_append] at hU
      obtain ⟨vs, rfl, hvs⟩ := h4 hfl
      have hF : Fits en D B S3 a w' := h.inplace hU h2 hblk
      refine hn S2 D B _ w' hK ?_
      rw [e2]
      have hreps := flat_reps (m := memOf en D B S3 w') rfl rets vs hvs
      have hp := packed_rep hreps
      split
      · rename_i r0
        exact hF.put o.dst (hp.1 _ rfl)
      · rename_i hne
        refine hF.put o.dst (hp.2 fun v hv => ?_)
        match rets, hv with
        | [r0], _ => exact hne r0 rfl
  · cases he
theorem InReps_plain {w : World} {G : Nat → Prop} : ∀ (j : Nat) (as : List AV) (vals : List Value), AVReps (argMem w G) as vals → InReps w G 1 (j + 1) as vals []
  | j, [], vals, h => ⟨h, rfl⟩
  | j, a :: as, vals, h => by
    obtain ⟨v, vs', rfl, h1, h2⟩ := h
    have ht : Nat.testBit 1 (j + 1) = false := by rw [Nat.testBit_succ]; exact Nat.zero_testBit _
    exact ⟨v, vs', rfl, (fun hn => by rw [ht] at hn; cases hn), fun _ => ⟨h1, InReps_plain (j + 1) as vs' h2⟩⟩
theorem NewReps_plain {w' : World} {rets : List Res} : ∀ (j : Nat) (as : List AV) (vals : List Value) (rs : List Res) (bs : List (List Nat)), NewReps w' 1 rets (j + 1) as vals rs bs → rs = rets
  | j, [], vals, rs, bs, h => h.2.2
  | j, a :: as, vals, rs, bs, h => by
    obtain ⟨v, vs', rfl, _, h2⟩ := h
    have ht : Nat.testBit 1 (j + 1) = false := by rw [Nat.testBit_succ]; exact Nat.zero_testBit _
    exact NewReps_plain (j + 1) as vs' rs bs (h2 ht)
/-- A row within a row of one's own is handed in. -/
theorem callSub_good {glob : Nat → AV} {E : Tbl} (hC : Types en.P en.cx.C) (hE : SoundE en.P glob E) (hglob : en.cx.G = glob) (hgl : ∀ g, AVRep (argMem en.w0 en.G) (glob g) (.pointer (some ⟨g, 0, none⟩))) (h : Fits en D B S a w) {c : Call} (ho : o.op = .call c) {n : Nat} (hf : c.callee = .value (.func n))
    {R : Type} {K : St → Option R} {r : R} (he : evSub E en.cx c o.dst S n K = some r) {next : Act → World → Prop} {Q : Exit → Act → World → Prop}
    (hn : ∀ S' D' B' a' w', K S' = some r → Fits en D' B' S' a' w' → next a' w') : o.wp en.P a w next Q := by
  unfold evSub at he
  split at he
  · rename_i t ts id ver sv p vs htys hargs
    split at he
    · rename_i el as hT has
      split at he
      · rename_i xs0 hsub
        cases hd : (distinctI ((AV.sub id ver sv p :: vs).flatMap (capIds S)) && Nat.blt n 1000000) with
        | false => rw [hd] at he; cases he
        | true =>
          rw [hd] at he
          simp only [cond_true] at he
          simp only [Bool.and_eq_true, Nat.blt_eq] at hd
          obtain ⟨hdis, hlt⟩ := hd
          obtain ⟨x, xs, hxs⟩ : ∃ x xs, c.args.toList = x :: xs := by
            cases hq : c.args.toList with
            | nil => rw [hq] at hargs; cases hargs
            | cons x xs => exact ⟨x, xs, rfl⟩
          rw [hxs] at hargs
          injection hargs with hx hvs
          subst hvs
          have ex := h.eval x
          rw [hx] at ex
          obtain ⟨U, zs, i, p', g1, g2, rfl, g4, g5, g6, k, o1, b0, b, b1, g7, g8, g9, g10⟩ := sub_good (m := memOf en D B S w) h.blk rfl ex hsub
          have g2 : (S.hp id).blk = some (.deep U zs sv) := g2
          have g7 : B id = k :: (b0 ++ b ++ b1) := g7
          have hsome : (S.hp id).blk.isSome = true := by rw [g2]; rfl
          obtain ⟨hcall, hk⟩ := (hE.ok (n + 1000000 * 1) _ _ r he).2 (by omega)
          rw [show (n + 1000000 * 1) % 1000000 = n by omega] at hcall
          rw [show (n + 1000000 * 1) % 1000000 = n by omega, show (n + 1000000 * 1) / 1000000 = 1 by omega] at hk
          have hnd := distinctI_nodup hdis
          rw [List.flatMap_cons, List.nodup_append] at hnd
          have hbsub : ∀ q, q ∈ b → q ∈ B id := fun q hq => by rw [g7]; simp [hq]
          have hGlt : ∀ q, AX (memOf en D B S w) ((xs.map (S.eval en.cx)).flatMap (capIds S)) q → q < w.heap.size := by
            rintro q (hk | ⟨id', _, h2, h3⟩)
            · rcases hk.1 with h1 | h1
              · exact Nat.lt_of_lt_of_le (h.gl q h1) h.below.size
              · exact h1.2
            · exact (h.lt id' q h2 h3).2
          have hnot : ∀ q ∈ blocks [b], q < w.heap.size ∧ ¬ AX (memOf en D B S w) ((xs.map (S.eval en.cx)).flatMap (capIds S)) q := by
            intro q hq
            have hq : q ∈ b := by simpa [blocks] using hq
            refine ⟨(h.lt id q hsome (hbsub q hq)).2, ?_⟩
            rintro (hA | ⟨id', f1, f2, f3⟩)
            · exact hA.2 ⟨id, hsome, hbsub q hq⟩
            · have := h.inj id' id q f2 hsome f3 (hbsub q hq)
              subst this
              exact hnd.2.2 id' (by simp [capIds, AV.ids]) id' f1 rfl
          have hndb : (blocks [b]).Nodup := by
            have := h.nd id hsome
            rw [g7, List.nodup_cons] at this
            have := this.2
            simp only [List.nodup_append] at this
            simpa [blocks] using this.1.2.1
          have hglob' : ∀ g, AVRep (argMem w (AX (memOf en D B S w) ((xs.map (S.eval en.cx)).flatMap (capIds S)))) (glob g) (.pointer (some ⟨g, 0, none⟩)) := by
            intro g
            refine AVRep_mono (m := argMem en.w0 en.G) (m' := argMem w (AX (memOf en D B S w) ((xs.map (S.eval en.cx)).flatMap (capIds S)))) (fun k hk => .inl ⟨.inl (.inl hk), fun ⟨id, h1, h2⟩ => ?_⟩) (fun k hk => h.below.block k (h.gl k (.inl hk)) (h.gm k hk)) (fun _ => .inr ⟨rfl, fun b' hb' => by cases hb'⟩) (hgl g)
            have h3 := h.gl k (.inl hk)
            rcases (h.lt id k h1 h2).1 with h4 | h4
            · exact h.gm k hk h4
            · omega
          obtain ⟨⟨ad, hn0, hc0, hval⟩, _⟩ := _root_.id ex
          have hOV : OwnVal w (.sl el) xs0 (a.eval x) [b] := by
            rw [hval] at g9 ⊢
            exact ⟨⟨_, b, rfl, g9, rfl⟩, (fun h => by cases h), fun _ => rfl, rfl, rfl⟩
          have hargs2 := argsOf_good hC h (G' := AX (memOf en D B S w) ((xs.map (S.eval en.cx)).flatMap (capIds S))) ts xs as has (fun y hy => AX_mono (fun i hi => flat_mem (List.mem_map.2 ⟨y, hy, rfl⟩) i hi))
          have hin : InReps w (AX (memOf en D B S w) ((xs.map (S.eval en.cx)).flatMap (capIds S))) 1 0 (.val (.sl el) xs0 :: as) (c.args.toList.map a.eval) [b] := by
            rw [hxs]
            refine ⟨a.eval x, xs.map a.eval, rfl, fun _ => ⟨.sl el, xs0, [b], [], rfl, rfl, hOV, InReps_plain 0 as _ hargs2⟩, fun hn => by cases hn⟩
          have hcalls := hk w (c.args.toList.map a.eval) _ [b] hGlt hnot hndb hin hglob'
          have ef := h.eval (.func n)
          have hrun : (execOp a.eval o).run en.P w = .ok (.enter n (c.args.toList.map a.eval).toArray) w := by
            obtain ⟨us, hus, hu0⟩ := ef
            have hu0 : us.toList = [] := hu0
            have hu1 : us = #[] := by apply Array.ext'; rw [hu0]
            subst hu1
            unfold callable at hcall
            split at hcall
            · rename_i fn hfnn
              simp only [Bool.and_eq_true, Bool.not_eq_true'] at hcall
              have hcall := hcall.2
              have hbody : fn.body.isNone = false := by
                cases hb : fn.body with
                | none => rw [hb] at hcall; simp at hcall
                | some x => rfl
              have harr : (c.args.map a.eval) = (c.args.toList.map a.eval).toArray := by
                apply Array.ext'; simp
              simp only [execOp, ho, resolve, hf, hus, Deferred.ofValue, Sem.run_bind, Sem.run_pure, Result.andThen_ok, invoke, callFunc, run_program, hfnn]
              rw [if_neg (by rw [hcall.1]; simp), if_neg (by rw [hbody]; simp)]
              simp only [Array.empty_append, Array.append_empty, Sem.run_pure, harr]
            · cases hcall
          unfold Oper.wp
          rw [hrun, Oper.upon_enter]
          refine hcalls.mono ?_
          rintro e w' ⟨rs, rets, v, h1, rfl, h2, h3, h4⟩
          rw [hxs] at h3
          obtain ⟨v0, vs0, e0, hn1, _⟩ := h3
          injection e0 with e0 e00
          subst e0; subst e00
          obtain ⟨T', x', ys, o', rs', b0', b1', e1, e2, e3, e4, e5⟩ := hn1 rfl
          injection e1 with e1 e11
          subst e1
          cases e11
          subst e2
          have hrs := NewReps_plain 0 as _ rs' b1' e5
          subst hrs
          obtain ⟨⟨v1, bk, c1, c2, c3⟩, _⟩ := e4
          rw [hval] at c1 g9
          injection c1 with c1
          subst c1
          have hbk : bk = b := by
            rw [c3] at e3
            injection e3 with e3
            exact e3.symm
          subst hbk
          have hb? : S.blk? id ver = some (.deep U zs sv) := by
            unfold St.blk?
            have g1 : (S.hp id).ver = ver := g1
            rw [g1, Nat.beq_refl]; exact g2
          simp only [hb?] at h1
          split at h1
          · rename_i z hz
            cases hall : rs'.all (fun r => !r.T.hasSl) with
            | false => rw [hall] at h1; cases h1
            | true =>
              rw [hall] at h1
              simp only [cond_true] at h1
              obtain ⟨vs', rfl, hvs⟩ := h4 hall
              have hset : (S.set id ⟨ver, some (.deep U (zs.set i z) (sv + 1))⟩).hp id = ⟨ver, some (.deep U (zs.set i z) (sv + 1))⟩ := by rw [set_hp, if_pos rfl]
              have hUA : UpdAt w' D B S (S.set id ⟨ver, some (.deep U (zs.set i z) (sv + 1))⟩) id := by
                refine ⟨.deep U zs sv, _, ver, ?_, hset, ⟨rfl, by simp, by omega⟩, (fun T0 x0 s0 y0 e1 e2 => by
                  injection e1 with _ _ e1
                  injection e2 with _ _ e2
                  omega), fun m hm hD hB => ?_⟩
                · have g1 : (S.hp id).ver = ver := g1
                  cases hq : S.hp id with
                  | mk v' b' => rw [hq] at g1 g2; simp only at g1 g2; rw [g1, g2]
                · show OwnD m.w (.sl U) (zs.set i z) [m.D id] (m.B id)
                  rw [hm, hD, hB]
                  refine g10 w' ys z (fun q hq hqb => h2.block q (h.lt id q hsome hq).2 (fun hm => hqb (by simpa [blocks] using hm))) (h.nd id hsome) ?_ hz
                  rw [hval]
                  exact c2
              have hF : Fits en D B (S.set id ⟨ver, some (.deep U (zs.set i z) (sv + 1))⟩) a w' := by
                refine h.inplace (X := [id]) (bl := blocks [bk]) ⟨rfl, fun j => ?_, fun j hj => ?_⟩ h2 (fun q hq => ⟨id, by simp, hbsub q (by simpa [blocks] using hq)⟩)
                · by_cases hj : j = id
                  · subst hj; exact .inr hUA
                  · exact .inl (by rw [set_hp, if_neg hj])
                · rw [List.mem_singleton] at hj; subst hj; exact hUA
              have hreps := flat_reps (m := memOf en D B (S.set id ⟨ver, some (.deep U (zs.set i z) (sv + 1))⟩) w') rfl rs' vs' hvs
              have hp := packed_rep hreps
              refine hn _ D B _ w' h1 ?_
              split
              · rename_i r0
                exact hF.put o.dst (hp.1 _ rfl)
              · rename_i hne
                refine hF.put o.dst (hp.2 fun v hv => ?_)
                match rs', hv with
                | [r0], _ => exact hne r0 rfl
          · cases h1
      · cases he
    · cases he
  · cases he
theorem evOp_sound {glob : Nat → AV} {E : Tbl} (hC : Types en.P en.cx.C) (hE : SoundE en.P glob E) (hglob : en.cx.G = glob) (hgl : ∀ g, AVRep (argMem en.w0 en.G) (glob g) (.pointer (some ⟨g, 0, none⟩))) (h : Fits en D B S a w)
    {R : Type} {K : St → Option R} {r : R} (he : evOp E en.cx dr o S K = some r) {next : Act → World → Prop} {Q : Exit → Act → World → Prop} (hn : ∀ S' D' B' a' w', K S' = some r → Fits en D' B' S' a' w' → next a' w') : o.wp en.P a w next Q := by
  have hdet : (match det en.cx S o with
      | some q => bif q.1 then K q.2 else none
      | none => none) = some r → o.wp en.P a w next Q := by
    intro he
    split at he
    · rename_i q hq
      obtain ⟨b, S'⟩ := q
      cases b with
      | false => cases he
      | true => exact wp_of_good (det_good hC h hq rfl) (fun D' B' a' w' hF => hn S' D' B' a' w' he hF)
    · cases he
  unfold evOp at he
  split at he
  · rename_i c ho
    split at he
    · rename_i f hf
      split at he
      · rename_i n caps hfn
        cases hip : Nat.beq (ipOf en.cx f) 0 with
        | false =>
          rw [hip] at he
          simp only [cond_false] at he
          cases dr with
          | true => cases he
          | false =>
            simp only [cond_false] at he
            have hm : ipOf en.cx f ≠ 0 := fun e => by rw [e] at hip; cases hip
            cases f with
            | func n0 =>
              injection hfn with e1 e2
              subst e1
              cases hsb : (Nat.beq (ipOf en.cx (.func n0)) 1 && isSub (c.args.toList.map (S.eval en.cx))) with
              | true =>
                rw [hsb] at he
                exact callSub_good hC hE hglob hgl h ho hf he hn
              | false =>
              rw [hsb] at he
              simp only [cond_false] at he
              exact callI_good hC hE hglob hgl h ho hf hm he hn
            | _ => exact absurd rfl hm
        | true =>
        rw [hip] at he
        simp only [cond_true] at he
        cases hnl : Nat.blt n 1000000 with
        | false => rw [hnl] at he; cases he
        | true =>
        rw [hnl] at he
        simp only [cond_true] at he
        split at he
        · rename_i as n' cs has hcs
          refine call_good hC hE hglob hgl h ho hf hfn (by rw [Nat.blt_eq] at hnl; exact hnl) has hcs he (fun rs v w' hK hb hr => ?_)
          unfold back at hK
          cases hg : (dr && !((c.args.toList.map (S.eval en.cx)).flatMap (capIds S) ++ capIds S (.fn n caps)).isEmpty && rs.any (fun r => r.T.hasSl && !r.own)) with
          | true => rw [hg] at hK; cases hK
          | false =>
            rw [hg] at hK
            simp only [cond_false] at hK
            split at hK
            · rename_i S' hS'
              obtain ⟨D', B', hF⟩ := callBack_good h hb hr hS'
              exact hn S' D' B' _ _ hK hF
            · cases hK
        · cases he
      · cases he
    · exact hdet he
  · exact hdet he
theorem Fits.setTm (h : Fits en D B S a w) {t : Nat} {v : AV} (hv : AVRep (memOf en D B S w) v (a.tmps.getD t undef)) : Fits en D B (S.put t v) a w := by
  refine ⟨h.gl, h.gm, h.defers, h.size, h.below, h.lt, h.inj, h.nd, h.blk, fun t' ht' => ?_, h.glob, h.keep⟩
  show AVRep (memOf en D B S w) (bif Nat.beq t' t then v else S.tm t') (a.tmps.getD t' undef)
  by_cases e : t' = t
  · subst e; rw [Nat.beq_refl]; exact hv
  · have : Nat.beq t' t = false := by
      cases hb : Nat.beq t' t with
      | false => rfl
      | true => exact absurd (Nat.eq_of_beq_eq_true hb) e
    rw [this]; exact h.tm t' ht'
/-- A test's slot, once its value is known. -/
theorem Fits.known (h : Fits en D B S a w) {t : Nat} {b : Bool} (ht : S.eval en.cx (.tmp t) = .val .bool b) : a.eval (.tmp t) = .bool b ∧ Fits en D B (S.put t (.val .bool b)) a w := by
  have e := h.eval (.tmp t)
  rw [ht] at e
  have e' := val_bool e
  exact ⟨e', h.setTm e⟩
theorem evOps_sound {glob : Nat → AV} {E : Tbl} (hC : Types en.P en.cx.C) (hE : SoundE en.P glob E) (hglob : en.cx.G = glob) (hgl : ∀ g, AVRep (argMem en.w0 en.G) (glob g) (.pointer (some ⟨g, 0, none⟩))) (ops : Array Oper)
    {R : Type} {K : St → Option R} {r : R} {Q : Exit → Act → World → Prop} (hn : ∀ S' D' B' a' w', K S' = some r → Fits en D' B' S' a' w' → Q .normal a' w') :
    ∀ (l : List Oper) (k : Nat) (D : Nat → Value) (B : Nat → List Nat) (S : St) (a : Act) (w : World), ops.toList.drop k = l → Fits en D B S a w → evOps E en.cx dr ops l S K = some r → wpOps en.P ops Q (List.range' k l.length) a w
  | [], k, D, B, S, a, w, hl, h, he => by
    simp only [evOps] at he
    exact hn S D B a w he h
  | o :: l, k, D, B, S, a, w, hl, h, he => by
    have hlt : k < ops.toList.length := by
      rcases Nat.lt_or_ge k ops.toList.length with h1 | h1
      · exact h1
      · rw [List.drop_of_length_le h1] at hl; cases hl
    have hok : ops[k]? = some o := by
      rw [List.drop_eq_getElem_cons hlt] at hl
      injection hl with hl _
      rw [← Array.getElem?_toList, List.getElem?_eq_getElem hlt, hl]
    have hdrop : ops.toList.drop (k + 1) = l := by
      rw [List.drop_eq_getElem_cons hlt] at hl
      injection hl
    have step : ∀ {D B S}, Fits en D B S a w → Region.wanted o (yielded ops a.tmps) = true → evOp E en.cx dr o S (fun S' => evOps E en.cx dr ops l S' K) = some r → wpOps en.P ops Q (List.range' k (l.length + 1)) a w := by
      intro D B S h hw he
      rw [List.range'_succ]
      simp only [wpOps, hok, hw, if_true]
      exact .inl (evOp_sound hC hE hglob hgl h he (fun S' D' B' a' w' hK hF => evOps_sound hC hE hglob hgl ops hn l (k + 1) D' B' S' a' w' hdrop hF hK))
    have skip : ∀ {D B S}, Fits en D B S a w → Region.wanted o (yielded ops a.tmps) = false → evOps E en.cx dr ops l (S.put? o.dst (.tup [])) K = some r → wpOps en.P ops Q (List.range' k (l.length + 1)) a w := by
      intro D B S h hw he
      rw [List.range'_succ]
      simp only [wpOps, hok, hw, Bool.false_eq_true, if_false]
      exact evOps_sound hC hE hglob hgl ops hn l (k + 1) D B _ _ w hdrop (h.put o.dst (v := AV.tup []) (x := undef) ⟨#[], rfl, rfl⟩) he
    simp only [evOps] at he
    split at he
    · rename_i hg
      exact step h (by simp [Region.wanted, hg]) he
    · rename_i j want hg
      split at he
      · rename_i t ht
        split at he
        · rename_i b hb
          obtain ⟨hv, hF⟩ := h.known hb
          have hyield : yielded ops a.tmps j = some b := by
            unfold yielded
            rw [ht]
            have hv' : a.tmps.getD t undef = .bool b := hv
            have ht2 : a.tmps[t]? = some (.bool b) := by
              rw [Array.getD_eq_getD_getElem?] at hv'
              cases hx : a.tmps[t]? with
              | none => rw [hx] at hv'; simp at hv'; exact absurd hv' (by simp [undef])
              | some x => rw [hx] at hv'; simp at hv'; rw [hv']
            simp [ht2]
          have hwant : Region.wanted o (yielded ops a.tmps) = (b == want) := by
            simp only [Region.wanted, hg, hyield]
            cases b <;> cases want <;> rfl
          cases b <;> cases want
          · exact step hF (by rw [hwant]; rfl) he
          · exact skip hF (by rw [hwant]; rfl) he
          · exact skip hF (by rw [hwant]; rfl) he
          · exact step hF (by rw [hwant]; rfl) he
        · rename_i l0 hb
          have e := h.eval (.tmp t)
          rw [hb] at e
          obtain ⟨cs, hcs, _⟩ := e
          have hv' : a.tmps.getD t undef = .tuple cs := hcs
          have hyield : yielded ops a.tmps j = none := by
            unfold yielded
            rw [ht]
            rw [Array.getD_eq_getD_getElem?] at hv'
            cases hx : a.tmps[t]? with
            | none => simp [hx]
            | some x => rw [hx] at hv'; simp at hv'; subst hv'; simp [hx]
          exact skip h (by simp only [Region.wanted, hg, hyield]; cases want <;> rfl) he
        · cases he
      · cases he
end
end Go.Ev
/- The evaluator's soundness, part 22: what goes on behind is natural; one step as a function. -/
set_option linter.unusedSectionVars false
set_option linter.unusedVariables false
namespace Go.Ev
open Go Go.RowKit

def NatE (E : Tbl) : Prop := ∀ {R : Type} (n : Nat) (args : List AV) (K : List Res → Option R), E n args K = (E n args some).bind K
def NatL (LO : LTbl) : Prop := ∀ {R : Type} (k : Nat) (S : St) (K : XT → St → Option R), LO k S K = (LO k S fun e S' => some (e, S')).bind fun p => K p.1 p.2

section
variable {E : Tbl} {cx : Cx} {dr : Bool} {S : St} {o : Oper}
theorem back_nat {dst : Option Nat} {given : List Nat} {rs : List Res} {R : Type} (K : St → Option R) : back cx dr S dst given rs K = (back cx dr S dst given rs some).bind K := by
  unfold back
  cases (dr && !given.isEmpty && rs.any (fun r => r.T.hasSl && !r.own)) with
  | true => rfl
  | false =>
    simp only [cond_false]
    cases callBack cx S dst given rs <;> rfl
theorem evIn_nat (hE : NatE E) {c : Call} {dst : Option Nat} {n m : Nat} {R : Type} (K : St → Option R) : evIn E cx c dst S n m K = (evIn E cx c dst S n m some).bind K := by
  unfold evIn
  split
  · cases (distinctI ((c.args.toList.map (S.eval cx)).flatMap (capIds S)) && Nat.blt n 1000000) with
    | false => rfl
    | true =>
      simp only [cond_true]
      refine (hE (n + 1000000 * m) _ _).trans ?_
      refine Eq.trans ?_ (congrArg (fun q => Option.bind q K) (hE (n + 1000000 * m) _ _).symm)
      show _ = Option.bind (Option.bind _ _) K
      rw [Option.bind_assoc]
      congr 1
      funext rs
      cases inBack dst m 0 (c.args.toList.map (S.eval cx)) rs S <;> rfl
  · rfl
theorem bif_bind {c : Bool} {x : St} {R : Type} {K : St → Option R} : (bif c then K x else none) = (bif c then some x else none).bind K := by cases c <;> rfl
theorem evSub_nat (hE : NatE E) {c : Call} {dst : Option Nat} {n : Nat} {R : Type} (K : St → Option R) : evSub E cx c dst S n K = (evSub E cx c dst S n some).bind K := by
  unfold evSub
  split
  · rename_i t ts id ver sv p vs htys hargs
    split
    · rename_i a as hT has
      split
      · rename_i xs hsub
        cases (distinctI ((AV.sub id ver sv p :: vs).flatMap (capIds S)) && Nat.blt n 1000000) with
        | false => rfl
        | true =>
          simp only [cond_true]
          refine (hE (n + 1000000 * 1) _ _).trans ?_
          refine Eq.trans ?_ (congrArg (fun q => Option.bind q K) (hE (n + 1000000 * 1) _ _).symm)
          show _ = Option.bind (Option.bind _ _) K
          rw [Option.bind_assoc]
          congr 1
          funext rs
          split
          · split
            · split
              · split <;> first | rfl | exact bif_bind
              · rfl
            · rfl
          · rfl
      · rfl
    · rfl
  · rfl
theorem evOp_nat (hE : NatE E) {R : Type} (K : St → Option R) : evOp E cx dr o S K = (evOp E cx dr o S some).bind K := by
  have hd : (match det cx S o with
      | some r => bif r.1 then K r.2 else none
      | none => none) = (match det cx S o with
      | some r => bif r.1 then some r.2 else none
      | none => none).bind K := by
    cases det cx S o with
    | none => rfl
    | some r => obtain ⟨b, S'⟩ := r; cases b <;> rfl
  unfold evOp
  split
  · split
    · split
      · rename_i f hcal v n caps hfn
        cases Nat.beq (ipOf cx f) 0 with
        | false =>
          simp only [cond_false]
          cases dr with
          | true => rfl
          | false =>
            simp only [cond_false]
            cases (Nat.beq (ipOf cx f) 1 && isSub (List.map (S.eval cx) _)) with
            | true => exact evSub_nat hE K
            | false => exact evIn_nat hE K
        | true =>
          simp only [cond_true]
          cases Nat.blt n 1000000 with
          | false => rfl
          | true =>
            simp only [cond_true]
            split
            · rename_i as n' cs has hcs
              refine (hE n (as ++ cs) _).trans ?_
              refine Eq.trans ?_ (congrArg (fun q => Option.bind q K) (hE n (as ++ cs) _).symm)
              show _ = Option.bind (Option.bind _ _) K
              rw [Option.bind_assoc]
              congr 1
              funext rs
              exact back_nat K
            · rfl
      · rfl
    · exact hd
  · exact hd
/-- One operation, as a function. -/
def step1 (E : Tbl) (cx : Cx) (dr : Bool) (ops : Array Oper) (o : Oper) (S : St) : Option St := match o.guard with
  | none => evOp E cx dr o S some
  | some (j, want) => match (ops[j]?).bind (·.dst) with
    | some t => match S.eval cx (.tmp t) with
      | .val .bool (b : Bool) => bif b == want then evOp E cx dr o S some else some (S.put? o.dst (.tup []))
      | .tup _ => some (S.put? o.dst (.tup []))
      | _ => none
    | none => none
theorem put_self {S : St} {cx : Cx} {t : Nat} {v : AV} (h : S.eval cx (.tmp t) = v) (hv : v ≠ .bot) : S.put t v = S := by
  have h' : (bif Nat.blt t cx.N then S.tm t else .bot) = v := h
  cases hb : Nat.blt t cx.N with
  | false => rw [hb] at h'; exact absurd h'.symm hv
  | true =>
    rw [hb] at h'
    have h'' : S.tm t = v := h'
    cases S with
    | mk tm hp =>
      show St.mk (fun u => bif Nat.beq u t then v else tm u) hp = St.mk tm hp
      congr 1
      funext u
      cases hu : Nat.beq u t with
      | false => rfl
      | true => rw [Nat.eq_of_beq_eq_true hu]; exact h''.symm
theorem evOps_cons (hE : NatE E) {ops : Array Oper} {rest : List Oper} {R : Type} (K : St → Option R) : evOps E cx dr ops (o :: rest) S K = (step1 E cx dr ops o S).bind fun S' => evOps E cx dr ops rest S' K := by
  rcases hg : o.guard with _ | ⟨j, want⟩
  · simp only [evOps, step1, hg]
    exact evOp_nat hE _
  · simp only [evOps, step1, hg]
    rcases ht : (ops[j]?).bind (·.dst) with _ | t
    · rfl
    · simp only []
      generalize hb : S.eval cx (.tmp t) = v
      cases v with
      | val T x =>
        cases T with
        | bool =>
          have hS := put_self hb (by intro h; cases h)
          cases x
          · simp only [hS]
            cases want
            · exact evOp_nat hE _
            · rfl
          · simp only [hS]
            cases want
            · rfl
            · exact evOp_nat hE _
        | _ => rfl
      | _ => rfl
def folds (E : Tbl) (cx : Cx) (dr : Bool) (ops : Array Oper) : List Oper → St → Option St
  | [], S => some S
  | o :: rest, S => (step1 E cx dr ops o S).bind (folds E cx dr ops rest)
theorem evOps_folds (hE : NatE E) {ops : Array Oper} {R : Type} (K : St → Option R) : ∀ (l : List Oper) (S : St), evOps E cx dr ops l S K = (folds E cx dr ops l S).bind K
  | [], S => rfl
  | o :: l, S => by
    rw [evOps_cons hE, folds, Option.bind_assoc]
    congr 1
    funext S'
    exact evOps_folds hE K l S'
theorem evCode_nat (hE : NatE E) {LO : LTbl} (hL : NatL LO) : ∀ (c : Code) {R : Type} (S : St) (K : XT → St → Option R), evCode E LO cx c S K = (evCode E LO cx c S fun e S' => some (e, S')).bind fun p => K p.1 p.2
  | .skip, _, S, K => rfl
  | .region _ ops draw, R, S, K => by
    simp only [evCode]
    cases draw with
    | true =>
      simp only [cond_true]
      cases okDraw cx ops with
      | false => rfl
      | true =>
        simp only [cond_true]
        rw [evOps_folds hE, evOps_folds hE]
        cases folds E cx true ops ((itemsOf ops (orderOf ops)).map fun p => p.2) S <;> rfl
    | false =>
      simp only [cond_false]
      rw [evOps_folds hE, evOps_folds hE]
      cases folds E cx false ops ops.toList S <;> rfl
  | .seq a b, R, S, K => by
    simp only [evCode]
    refine (evCode_nat hE hL a S _).trans (Eq.trans ?_ (congrArg (fun q => Option.bind q _) (evCode_nat hE hL a S _)).symm)
    cases evCode E LO cx a S fun e S' => some (e, S') with
    | none => rfl
    | some p =>
      obtain ⟨e, S'⟩ := p
      cases e with
      | normal => exact evCode_nat hE hL b S' K
      | exit id => rfl
      | ret => rfl
  | .cond c a b, R, S, K => by
    simp only [evCode]
    split
    · split
      · rename_i v hv
        cases v with
        | true => exact evCode_nat hE hL a _ K
        | false => exact evCode_nat hE hL b _ K
      · rfl
    · rename_i v
      cases v with
      | true => exact evCode_nat hE hL a _ K
      | false => exact evCode_nat hE hL b _ K
    · rfl
  | .block id b, R, S, K => by
    simp only [evCode]
    refine (evCode_nat hE hL b S _).trans (Eq.trans ?_ (congrArg (fun q => Option.bind q _) (evCode_nat hE hL b S _)).symm)
    cases evCode E LO cx b S fun e S' => some (e, S') with
    | none => rfl
    | some p =>
      obtain ⟨e, S'⟩ := p
      cases e with
      | normal => rfl
      | exit i => simp only [Option.bind_some]; cases Nat.beq i id <;> rfl
      | ret => rfl
  | .loop b, R, S, K => by
    simp only [evCode]
    split
    · exact hL _ S K
    · rfl
  | .exit id, R, S, K => rfl
  | .ret, R, S, K => rfl
  | .label _, R, S, K => rfl
  | .goto _, R, S, K => rfl
  | .scope _, R, S, K => rfl
  | .refuse _, R, S, K => rfl
  | .rangeFunc _ _ _ _, R, S, K => rfl
end
end Go.Ev
/- The evaluator's soundness, part 23: what an operation reads; operations that may change places. -/
set_option linter.unusedSectionVars false
set_option linter.unusedVariables false
namespace Go.Ev
open Go Go.RowKit

mutual
/-- No name in it is newer than told. -/
def AV.fine (V : Nat → Nat) : AV → Prop
  | .own id ver => ver ≤ V id
  | .ptr id ver _ => ver ≤ V id
  | .sub id ver _ _ => ver ≤ V id
  | .agg l => fines V l
  | .tup l => fines V l
  | .fn _ caps => fines V caps
  | _ => True
def fines (V : Nat → Nat) : List AV → Prop
  | [] => True
  | v :: l => v.fine V ∧ fines V l
end
theorem fines_iff {V : Nat → Nat} : ∀ {l : List AV}, fines V l ↔ ∀ v ∈ l, v.fine V
  | [] => by simp [fines]
  | v :: l => by simp [fines, fines_iff (l := l)]
structure Frame (V : Nat → Nat) (S S' : St) : Prop where
  blk : ∀ id ver, ver ≤ V id → S'.blk? id ver = S.blk? id ver
  box : ∀ id ver T w, ver ≤ V id → S.blk? id ver = some (.box T w) → w.fine V
section
variable {V : Nat → Nat} {S S' : St}
theorem cell1_frame (F : Frame V S S') {T : Ty} {v : AV} (hv : v.fine V) : S'.cell1 T v = S.cell1 T v := by
  cases v with
  | own id ver =>
    have : S'.blk? id ver = S.blk? id ver := F.blk id ver hv
    cases T with
    | sl a =>
      show S'.row? a id ver = S.row? a id ver
      unfold St.row?
      rw [this]
    | _ => rfl
  | sub id ver sv p =>
    have : S'.blk? id ver = S.blk? id ver := F.blk id ver hv
    cases T with
    | sl a =>
      show S'.sub? a id ver sv p = S.sub? a id ver sv p
      unfold St.sub?
      rw [this]
    | _ => rfl
  | _ => rfl
theorem implode_frame (F : Frame V S S') : ∀ {T : Ty} {l : List AV}, fines V l → S'.implode T l = S.implode T l ∧ ∀ x r, S.implode T l = some (x, r) → fines V r
  | .pair a b, l, hl => by
    obtain ⟨e1, k1⟩ := implode_frame F (T := a) hl
    simp only [St.implode, e1]
    split
    · rename_i x r h
      obtain ⟨e2, k2⟩ := implode_frame F (T := b) (k1 x r h)
      refine ⟨by rw [e2], fun y r' h' => ?_⟩
      split at h'
      · rename_i z q hz
        injection h' with h'; injection h' with h1 h2
        subst h2
        exact k2 z q hz
      · cases h'
    · exact ⟨rfl, fun y r' h' => by cases h'⟩
  | .st a, l, hl => implode_frame F (T := a) hl
  | .arr n a, l, hl => ⟨rfl, fun x r h => by cases h⟩
  | .int k, l, hl => by
    cases l with
    | nil => exact ⟨rfl, fun x r h => by cases h⟩
    | cons v l =>
      simp only [St.implode]
      refine ⟨by rw [cell1_frame F hl.1], fun x r h => ?_⟩
      cases hc : S.cell1 (.int k) v with
      | none => rw [hc] at h; cases h
      | some y => rw [hc] at h; injection h with h; injection h with h1 h2; exact h2 ▸ hl.2
  | .bool, l, hl => by
    cases l with
    | nil => exact ⟨rfl, fun x r h => by cases h⟩
    | cons v l =>
      simp only [St.implode]
      refine ⟨by rw [cell1_frame F hl.1], fun x r h => ?_⟩
      cases hc : S.cell1 .bool v with
      | none => rw [hc] at h; cases h
      | some y => rw [hc] at h; injection h with h; injection h with h1 h2; exact h2 ▸ hl.2
  | .str, l, hl => by
    cases l with
    | nil => exact ⟨rfl, fun x r h => by cases h⟩
    | cons v l =>
      simp only [St.implode]
      refine ⟨by rw [cell1_frame F hl.1], fun x r h => ?_⟩
      cases hc : S.cell1 .str v with
      | none => rw [hc] at h; cases h
      | some y => rw [hc] at h; injection h with h; injection h with h1 h2; exact h2 ▸ hl.2
  | .sl a, l, hl => by
    cases l with
    | nil => exact ⟨rfl, fun x r h => by cases h⟩
    | cons v l =>
      simp only [St.implode]
      refine ⟨by rw [cell1_frame F hl.1], fun x r h => ?_⟩
      cases hc : S.cell1 (.sl a) v with
      | none => rw [hc] at h; cases h
      | some y => rw [hc] at h; injection h with h; injection h with h1 h2; exact h2 ▸ hl.2
theorem toVal_frame (F : Frame V S S') {T : Ty} {v : AV} (hv : v.fine V) : S'.toVal T v = S.toVal T v := by
  cases v with
  | own id ver => exact cell1_frame F (v := .own id ver) hv
  | sub id ver sv p => exact cell1_frame F (v := .sub id ver sv p) hv
  | agg l =>
    have hv' : fines V l := hv
    cases T with
    | st a => simp only [St.toVal, (implode_frame F (T := a) hv').1]
    | _ => rfl
  | _ => rfl
theorem setParts_same {T : Ty} : ∀ (ps : List (Nat × AV)) (l : List AV), S'.setParts T ps l = S.setParts T ps l
  | [], l => rfl
  | (j, v) :: ps, l => by
    simp only [St.setParts]
    split
    · split
      · exact setParts_same ps _
      · rfl
    · rfl
theorem allVal_frame (F : Frame V S S') {T : Ty} {l : List AV} : allVal S' T l = allVal S T l := by
  unfold allVal
  cases h : l.all (fun v => match v with
    | .val _ _ => true
    | _ => false) with
  | false => rfl
  | true =>
    simp only [cond_true]
    have hf : fines V l := fines_iff.2 fun v hv => by
      have := List.all_eq_true.1 h v hv
      cases v with
      | val T x => trivial
      | _ => cases this
    rw [(implode_frame F hf).1]
theorem elems_frame (F : Frame V S S') {a : Ty} : ∀ (ps : List (Nat × AV)) (xs : List a.den), (∀ p ∈ ps, p.2.fine V) → S'.elems a ps xs = S.elems a ps xs
  | [], xs, _ => rfl
  | (j, v) :: ps, xs, h => by
    simp only [St.elems, toVal_frame F (h (j, v) (by simp))]
    split
    · cases Nat.blt j xs.length with
      | true => exact elems_frame F ps _ (fun p hp => h p (by simp [hp]))
      | false => rfl
    · rfl
theorem mapM_congr {α β : Type} {f f' : α → Option β} : ∀ {l : List α}, (∀ c ∈ l, f' c = f c) → l.mapM f' = l.mapM f
  | [], _ => rfl
  | c :: l, h => by
    rw [List.mapM_cons, List.mapM_cons, mapM_congr (fun c hc => h c (by simp [hc])), h c (by simp)]
theorem argOf_frame (F : Frame V S S') {cx : Cx} {t : Nat} {v : AV} (hv : v.fine V) : argOf cx S' t v = argOf cx S t v := by
  cases v with
  | fn f caps =>
    have hv' : ∀ c ∈ caps, c.fine V := fines_iff.1 hv
    simp only [argOf]
    congr 1
    refine mapM_congr fun c hc => ?_
    have hc := hv' c hc
    cases c with
    | ptr id ver p =>
      cases p with
      | nil =>
        simp only [F.blk id ver hc]
        cases hb : S.blk? id ver with
        | none => rfl
        | some b =>
          cases b with
          | row T xs => rfl
          | deep T xs sv => rfl
          | box T w => simp only [toVal_frame F (F.box id ver T w hc hb)]
      | cons s p => rfl
    | _ => rfl
  | _ =>
    simp only [argOf]
    split
    · rw [toVal_frame F hv]
    · rfl
theorem argsOf_frame (F : Frame V S S') {cx : Cx} : ∀ (ts : List Nat) (vs : List AV), (∀ v ∈ vs, v.fine V) → argsOf cx S' ts vs = argsOf cx S ts vs
  | [], [], _ => rfl
  | [], _ :: _, _ => rfl
  | _ :: _, [], _ => rfl
  | t :: ts, v :: vs, h => by
    simp only [argsOf, argOf_frame F (h v (by simp)), argsOf_frame F ts vs (fun u hu => h u (by simp [hu]))]
end
end Go.Ev
