/- Proved: FnExactParseTableCardSaid of the seat YtncllndlbeghjaaDoor: the law ParseTable returns true for every input, and each argument reads behind the call as it did; conditions: those of the given row, no other. -/
import Derived.Test.YtncllndlbeghjaaDoorEv3
import Derived.Test.YtncllndlbeghjaaDoorTParseTable
import Derived.Test.YtncllndlbeghjaaDoorLg1
import Derived.Test.YtncllndlbeghjaaDoorLgOK
import Derived.Test.YtncllndlbeghjaaDoorRows
import Derived.WalkKit
import Derived.ProofKit
import Derived.OpenShut
import Derived.ShutString
import Derived.ChangeOld
import Derived.Below
import Derived.Carry
import Derived.SizedLaws
import Derived.LaidMore
import Derived.Stop.Joined
import Derived.OpenVars
import Derived.SevenTiedAt
import Derived.MakeChecks
import Derived.Lay
import Derived.Test.YtncllndlbeghjaaDoorTie
import Derived.Test.YtncllndlbeghjaaDoorCards
set_option linter.unusedVariables false
set_option linter.unusedSimpArgs false
set_option linter.unusedSectionVars false
namespace Go.Proofs.YtncllndlbeghjaaDoor.fnExactParseTable
open Go Go.Ev Go.Lg Go.Proofs Go.ChangeShapes Go.WideShapes Go.ChangeAt Go.RowKit
set_option linter.unusedVariables false
set_option maxRecDepth 100000
theorem own : ownKnob Tryd.prog.godebug = none := by kernel_rfl
theorem plain [GC] (a0 : (.str : Ty).den) (w0 : Wf (.str) a0) : ftab (.c (.val .str) .e) (TieParseTable.F_laws_FnExactParseTable 4194304) [.val _ a0] some = some [⟨.bool, true, true⟩] := by
  refine (ftab_some (ss := (.c (.val .str) .e)) (x := (a0, ())) rfl some).trans ?_
  show laws_FnExactParseTable 4194304 a0 (fun (r0 : Bool) => some [(⟨.bool, r0, true⟩ : Res)]) = _
  rw [law_FnExactParseTable a0 w0]
theorem door_met (os : Os) (args : Array Value) : laidMetH Tryd.prog Rows.fnExactParseTableRow.laid ((World.laidAll Tryd.prog os Rows.fnExactParseTableRow.laid).forCall (fun _ _ => 0) ⟨#[], args, []⟩).memory := by
  rw [MakeChecks.laidMetH_plain _ _ _ (by kernel_rfl)]
  exact laidMet_laidAll _ (by kernel_rfl) (by kernel_rfl)
theorem lifted (os : Os) (started : os.Started) (H : Type) (enc : TypeId × Value → H) :
    ReturnsInHanded {} Tryd.checked os 3 .any (fun w args => (Rows.fnExactParseTableSpec.pre enc Tryd.prog Tryd.f3 Rows.fnExactParseTableRow.domain false w args ∧ laidMetH Tryd.prog Rows.fnExactParseTableRow.laid w) ∧ sizedMet enc Tryd.prog Tryd.f3 (OpenSpec.ofChange Rows.fnExactParseTableSpec) false w args) (Rows.fnExactParseTableSpec.post enc Tryd.prog Tryd.f3 false true false false) := by
  refine returnsInHanded_laid_shaped (C := Tryd.checked) (X := fun w _ => laidMetH Tryd.prog Rows.fnExactParseTableRow.laid w) (fun _ _ _ hh h => h.of_heap hh) own started (by kernel_rfl) Tryd.func3
    (ChangeSpec.witness_shaped (enc := enc) (C := Tryd.checked) (os := os) (X := fun w _ => laidMetH Tryd.prog Rows.fnExactParseTableRow.laid w) false (World.laidAll Tryd.prog os Rows.fnExactParseTableRow.laid) #[.string ⟨#[]⟩] 8 rfl (World.shaped_of_ZipB (by kernel_rfl) (by kernel_rfl)) (by kernel_rfl) (by kernel_rfl) (by kernel_rfl) (door_met os _)) ?_
  intro W base args ds gs before hval0 hW hL hSh
  have hval : ∀ (j : Nat) t v, Tryd.f3.params[j]? = some t → args[j]? = some v → Value.okWide Tryd.prog W .any base t v := hval0
  have hW' := hW
  obtain ⟨p, q, hA0, hV, rfl, hfz, hnd⟩ := hW
  have hA : DataW.TrodAll enc Tryd.prog W 0 (fun _ => true) true Tryd.f3.params.toList args.toList ds p := hA0
  have hlt := DataW.TrodAll.lt hA
  rw [Tryd.params3] at hA hval
  obtain ⟨v0, vs0, d0, ds0, p0, q0, hargs, rfl, rfl, h0, r0⟩ := trodAll_cons hA
  obtain ⟨rfl, rfl, rfl⟩ := trodAll_nil r0
  obtain rfl : args = #[v0] := by cases args; simp_all
  obtain ⟨rfl, rfl⟩ := trodVars_none hV
  obtain ⟨a0, wa0, ra0⟩ := arg_rep (TieParseTable.types.ok 9 _ rfl) (hval 0 9 v0 rfl rfl) h0
  rw [MakeChecks.laidMetH_plain _ _ _ (by kernel_rfl)] at hL
  obtain ⟨hg5, at5⟩ := glob_tab (x := Lib.pow10Tab) (d := Rows.laid_internal_strconv_uint64pow10) (i := 2) (n := "internal/strconv.uint64pow10") (g := 5) (TieParseTable.types.ok 168 _ rfl) hL (by kernel_rfl) (by kernel_rfl) rfl (by kernel_rfl)
  obtain ⟨hg0, mx, at0⟩ := glob_int (g := 0) (t := 3) (zero := #[.int .i64 0]) (k := .i64) hSh (of_decide_eq_true (by kernel_rfl)) (by kernel_rfl) rfl (by kernel_rfl) (by kernel_rfl) Tryd.underlying3
  obtain ⟨hg1, e0, at1⟩ := glob_iface (t := 90) Tryd.underlying90 hL (n := "strconv.ErrSyntax") (g := 1) (d := Rows.laid_strconv_ErrSyntax) (i := 5) (by kernel_rfl) (by kernel_rfl) rfl rfl
  obtain ⟨hg2, e1, at2⟩ := glob_iface (t := 90) Tryd.underlying90 hL (n := "strconv.ErrRange") (g := 2) (d := Rows.laid_strconv_ErrRange) (i := 4) (by kernel_rfl) (by kernel_rfl) rfl rfl
  letI : GC := ⟨mx, e0, e1⟩
  refine (law_call (TieParseTable.s_laws_FnExactParseTable 4194304) (args := [.val _ a0]) (vals := [v0]) (W := W) (G := fun k => inPs (p0 ++ ([] : List MemPlace)) k ∨ k = 0 ∨ k = 1 ∨ k = 2 ∨ k = 5) ?_ ⟨v0, [], rfl, ValRep_mono (fun k hk => .inl (by obtain ⟨x, hx, e⟩ := hk; exact ⟨x, by simp [hx], e⟩)) (fun _ _ => rfl) ra0, rfl⟩ ?_ (plain a0 wa0)).mono fun e W' ⟨he, bel⟩ => ?_
  · rintro k (⟨x, hx, rfl⟩ | rfl | rfl | rfl | rfl)
    · exact hlt x (by simpa using hx)
    · exact hg0
    · exact hg1
    · exact hg2
    · exact hg5
  · intro g
    unfold TieParseTable.glob
    cases hb0 : Nat.beq g 0 with
    | true =>
      have hgb := Nat.eq_of_beq_eq_true hb0
      subst hgb
      exact at0 _ (.inr (by simp))
    | false =>
      cases hb1 : Nat.beq g 1 with
      | true =>
        have hgb := Nat.eq_of_beq_eq_true hb1
        subst hgb
        exact at1 _ (.inr (by simp))
      | false =>
        cases hb2 : Nat.beq g 2 with
        | true =>
          have hgb := Nat.eq_of_beq_eq_true hb2
          subst hgb
          exact at2 _ (.inr (by simp))
        | false =>
          cases hb5 : Nat.beq g 5 with
          | true =>
            have hgb := Nat.eq_of_beq_eq_true hb5
            subst hgb
            exact at5 _ (.inr (by simp))
          | false =>
            exact trivial
  subst he
  exact ⟨_, rfl, _, _, _, [], _, [], hW', trodAll_mk1 (shut_bool Tryd.underlying4 _), (trodAll_cons_mk (Below.trod (by kernel_rfl) (by kernel_rfl) (of_decide_eq_true (by kernel_rfl)) h0 bel (fun x hx => hlt x (by simp [hx]))) trodAll_mk0), rfl, bel.frame _, fun h => by cases h⟩
theorem over : Rows.fnExactParseTableRow.holds Tryd.pinned (OpenSpec.ofChange Rows.fnExactParseTableSpec) :=
  OpenClaim.holds_of_wide 3 Tryd.f3 rfl rfl rfl rfl rfl rfl rfl ⟨rfl, rfl, rfl, rfl, rfl⟩ rfl rfl rfl rfl rfl (by kernel_rfl) Tryd.func3 (by kernel_rfl)
    (of_decide_eq_true (by kernel_rfl)) (by unfold Func.isWrapper; first | (rw [if_pos (by decide +kernel)]; kernel_rfl) | (rw [if_neg (by decide +kernel)]; exact ⟨rfl, rfl⟩))
    (fun os started H enc _ => lifted os started H enc)
theorem carded : Rows.FnExactParseTableCardSaid :=
  Claim7.holds_tied_plain_at .later [] [.data, .data, .data, .data, .sentinel, .sentinel, .pinned] true (true, "8322dcdffc215946cfe097d534e17cd85cf92a621be62408b3012585b3ff8580") true
    over (fun _ h => by cases h) (by kernel_rfl) (fun _ h => by cases h) fnExactParseTable_row_tie rfl ⟨rfl, rfl⟩ (by kernel_rfl) rfl
    (fun f fn hf hfn => by
      obtain rfl : f = 3 := Option.some.inj ((show Tryd.prog.funcNamed "loop.example/g00886/laws.FnExactParseTable" = some 3 by kernel_rfl).symm.trans hf) |>.symm
      obtain rfl : fn = Tryd.f3 := (Option.some.inj (Tryd.func3.symm.trans hfn)).symm
      exact ⟨by kernel_rfl, fun j t ht => by
        rw [Tryd.params3] at ht
        have hm : t ∈ [9] := by simpa using Array.mem_of_getElem? ht
        have hall : ([9].all fun u => !Tryd.prog.wantsStandIn u) = true := by kernel_rfl
        exact (show Tryd.prog.wantsStandIn t = false by simpa using List.all_eq_true.1 hall t hm)⟩)
    (by kernel_rfl)
end Go.Proofs.YtncllndlbeghjaaDoor.fnExactParseTable
namespace Go.Proofs.YtncllndlbeghjaaDoor
open Go
theorem fnExactParseTable_holds : Rows.FnExactParseTableCardSaid := fnExactParseTable.carded
#print axioms fnExactParseTable_holds
end Go.Proofs.YtncllndlbeghjaaDoor
