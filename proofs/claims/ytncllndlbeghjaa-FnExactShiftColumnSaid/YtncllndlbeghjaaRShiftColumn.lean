/- Proved: FnExactShiftColumnSaid of the seat Ytncllndlbeghjaa: the law ShiftColumn returns true for every input, and each argument reads behind the call as it did; conditions: those of the given row, no other. -/
import Derived.Test.YtncllndlbeghjaaEv2
import Derived.Test.YtncllndlbeghjaaTShiftColumn
import Derived.Test.YtncllndlbeghjaaLgBLBMCLCM
import Derived.Test.YtncllndlbeghjaaRows
import Derived.WalkKit
import Derived.ProofKit
import Derived.OpenShut
import Derived.ShutString
import Derived.ChangeOld
import Derived.Below
import Derived.Carry
import Derived.SizedLaws
set_option linter.unusedVariables false
set_option linter.unusedSimpArgs false
set_option linter.unusedSectionVars false
namespace Go.Proofs.Ytncllndlbeghjaa.fnExactShiftColumn
open Go Go.Ev Go.Lg Go.Proofs Go.ChangeShapes Go.WideShapes Go.ChangeAt Go.RowKit
set_option linter.unusedVariables false
set_option maxRecDepth 100000
theorem own : ownKnob Try.prog.godebug = none := by kernel_rfl
theorem plain (a0 : ((.st (.pair (.sl (.st (.pair (.int .i64) (.int .i64)))) (.pair (.int .i64) (.sl (.sl (.int .i64)))))) : Ty).den) (a1 : ((.int .i64) : Ty).den) (a2 : ((.int .i64) : Ty).den) (w0 : Wf ((.st (.pair (.sl (.st (.pair (.int .i64) (.int .i64)))) (.pair (.int .i64) (.sl (.sl (.int .i64))))))) a0) (w1 : Wf ((.int .i64)) a1) (w2 : Wf ((.int .i64)) a2) : ftab (.c (.val (.st (.pair (.sl (.st (.pair (.int .i64) (.int .i64)))) (.pair (.int .i64) (.sl (.sl (.int .i64))))))) (.c (.val (.int .i64)) (.c (.val (.int .i64)) .e))) (TieShiftColumn.F_laws_FnExactShiftColumn 4194304) [.val _ a0, .val _ a1, .val _ a2] some = some [⟨.bool, true, true⟩] := by
  refine (ftab_some (ss := (.c (.val (.st (.pair (.sl (.st (.pair (.int .i64) (.int .i64)))) (.pair (.int .i64) (.sl (.sl (.int .i64))))))) (.c (.val (.int .i64)) (.c (.val (.int .i64)) .e)))) (x := (a0, a1, a2, ())) rfl some).trans ?_
  show laws_FnExactShiftColumn 4194304 a0 a1 a2 (fun (r0 : Bool) => some [(⟨.bool, r0, true⟩ : Res)]) = _
  rw [law_FnExactShiftColumn a0 w0 a1 w1 a2 w2]
theorem lifted (os : Os) (started : os.Started) (H : Type) (enc : TypeId × Value → H) :
    ReturnsInHanded {} Try.checked os 6 .any (Rows.fnExactShiftColumnSpec.pre6 enc Try.prog Try.f6 Rows.fnExactShiftColumnRow.domain false) (Rows.fnExactShiftColumnSpec.post enc Try.prog Try.f6 false true false false) := by
  refine returnsInHanded_of_change_sized (C := Try.checked) own started (by kernel_rfl) Try.func6
    (ChangeSpec.witness6 (enc := enc) (C := Try.checked) false ⟨#[], #[.agg #[.slice none 0 0, .int .i64 0, .slice none 0 0], .int .i64 0, .int .i64 0], []⟩ 8 (by kernel_rfl) (by kernel_rfl) (by kernel_rfl) (by kernel_rfl)) ?_
  intro W base args ds gs before hval0 hW hcnd hsz0 _
  have hval : ∀ (j : Nat) t v, Try.f6.params[j]? = some t → args[j]? = some v → Value.okWide Try.prog W .any base t v := hval0
  have hW' := hW
  obtain ⟨p, q, hA0, hV, rfl, hfz, hnd⟩ := hW
  have hA : DataW.TrodAll enc Try.prog W 0 (fun _ => true) true Try.f6.params.toList args.toList ds p := hA0
  have hlt := DataW.TrodAll.lt hA
  rw [Try.params6] at hA hval
  obtain ⟨v0, vs0, d0, ds0, p0, q0, hargs, rfl, rfl, h0, r0⟩ := trodAll_cons hA
  obtain ⟨v1, vs1, d1, ds1, p1, q1, rfl, rfl, rfl, h1, r1⟩ := trodAll_cons r0
  obtain ⟨v2, vs2, d2, ds2, p2, q2, rfl, rfl, rfl, h2, r2⟩ := trodAll_cons r1
  obtain ⟨rfl, rfl, rfl⟩ := trodAll_nil r2
  obtain rfl : args = #[v0, v1, v2] := by cases args; simp_all
  obtain ⟨rfl, rfl⟩ := trodVars_none hV
  obtain ⟨a0, wa0, ra0⟩ := arg_rep (TieShiftColumn.types.ok 25 _ rfl) (hval 0 25 v0 rfl rfl) h0
  obtain ⟨a1, wa1, ra1⟩ := arg_rep (TieShiftColumn.types.ok 3 _ rfl) (hval 1 3 v1 rfl rfl) h1
  obtain ⟨a2, wa2, ra2⟩ := arg_rep (TieShiftColumn.types.ok 3 _ rfl) (hval 2 3 v2 rfl rfl) h2
  refine (law_call (TieShiftColumn.s_laws_FnExactShiftColumn 4194304) (args := [.val _ a0, .val _ a1, .val _ a2]) (vals := [v0, v1, v2]) (W := W) (G := fun k => inPs (p0 ++ (p1 ++ (p2 ++ ([] : List MemPlace)))) k) ?_ ⟨v0, [v1, v2], rfl, ValRep_mono (fun k hk => (by obtain ⟨x, hx, e⟩ := hk; exact ⟨x, by simp [hx], e⟩)) (fun _ _ => rfl) ra0, v1, [v2], rfl, ValRep_mono (fun k hk => (by obtain ⟨x, hx, e⟩ := hk; exact ⟨x, by simp [hx], e⟩)) (fun _ _ => rfl) ra1, v2, [], rfl, ValRep_mono (fun k hk => (by obtain ⟨x, hx, e⟩ := hk; exact ⟨x, by simp [hx], e⟩)) (fun _ _ => rfl) ra2, rfl⟩ ?_ (plain a0 a1 a2 wa0 wa1 wa2)).mono fun e W' ⟨he, bel⟩ => ?_
  · rintro k ⟨x, hx, rfl⟩
    exact hlt x (by simpa using hx)
  · exact fun g => trivial
  subst he
  exact ⟨_, rfl, _, _, _, [], _, [], hW', trodAll_mk1 (shut_bool Try.underlying4 _), (trodAll_cons_mk (Below.trod (by kernel_rfl) (by kernel_rfl) (of_decide_eq_true (by kernel_rfl)) h0 bel (fun x hx => hlt x (by simp [hx]))) (trodAll_cons_mk (Below.trod (by kernel_rfl) (by kernel_rfl) (of_decide_eq_true (by kernel_rfl)) h1 bel (fun x hx => hlt x (by simp [hx]))) (trodAll_cons_mk (Below.trod (by kernel_rfl) (by kernel_rfl) (of_decide_eq_true (by kernel_rfl)) h2 bel (fun x hx => hlt x (by simp [hx]))) trodAll_mk0))), rfl, bel.frame _, fun h => by cases h⟩
theorem over : Rows.fnExactShiftColumnRow.holds Try.pinned (OpenSpec.ofChange Rows.fnExactShiftColumnSpec) :=
  OpenClaim.holds_of_wide 6 Try.f6 rfl rfl rfl rfl rfl rfl rfl ⟨rfl, rfl, rfl, rfl, rfl⟩ rfl rfl rfl rfl rfl (by kernel_rfl) Try.func6 (by kernel_rfl)
    (of_decide_eq_true (by kernel_rfl)) (by unfold Func.isWrapper; first | (rw [if_pos (by decide +kernel)]; kernel_rfl) | (rw [if_neg (by decide +kernel)]; exact ⟨rfl, rfl⟩))
    (fun os started H enc _ => lifted os started H enc)
end Go.Proofs.Ytncllndlbeghjaa.fnExactShiftColumn
namespace Go.Proofs.Ytncllndlbeghjaa
open Go
theorem fnExactShiftColumn_holds : Rows.FnExactShiftColumnSaid := fnExactShiftColumn.over
#print axioms fnExactShiftColumn_holds
end Go.Proofs.Ytncllndlbeghjaa
