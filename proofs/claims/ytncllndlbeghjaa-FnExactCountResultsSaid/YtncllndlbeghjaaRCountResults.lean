/- Proved: FnExactCountResultsSaid of the seat Ytncllndlbeghjaa: the law CountResults returns true for every input, and each argument reads behind the call as it did; conditions: those of the given row, no other. -/
import Derived.Test.YtncllndlbeghjaaEv3
import Derived.Test.YtncllndlbeghjaaTCountResults
import Derived.Test.YtncllndlbeghjaaLgCMCOFLFMFNFOFPHLCNDLILIM
import Derived.Test.YtncllndlbeghjaaRows
import Derived.WalkKit
import Derived.ProofKit
import Derived.OpenShut
import Derived.ShutString
import Derived.ChangeOld
import Derived.Below
import Derived.Carry
import Derived.SizedLaws
set_option linter.unusedVariables false
set_option linter.unusedSimpArgs false
set_option linter.unusedSectionVars false
namespace Go.Proofs.Ytncllndlbeghjaa.fnExactCountResults
open Go Go.Ev Go.Lg Go.Proofs Go.ChangeShapes Go.WideShapes Go.ChangeAt Go.RowKit
set_option linter.unusedVariables false
set_option maxRecDepth 100000
theorem own : ownKnob Try.prog.godebug = none := by kernel_rfl
theorem plain (a0 : ((.st (.pair (.sl (.st (.pair (.int .i64) (.int .i64)))) (.pair (.int .i64) (.sl (.sl (.int .i64)))))) : Ty).den) (a1 : ((.int .i64) : Ty).den) (w0 : Wf ((.st (.pair (.sl (.st (.pair (.int .i64) (.int .i64)))) (.pair (.int .i64) (.sl (.sl (.int .i64))))))) a0) (w1 : Wf ((.int .i64)) a1) : ftab (.c (.val (.st (.pair (.sl (.st (.pair (.int .i64) (.int .i64)))) (.pair (.int .i64) (.sl (.sl (.int .i64))))))) (.c (.val (.int .i64)) .e)) (TieCountResults.F_laws_FnExactCountResults 4194304) [.val _ a0, .val _ a1] some = some [⟨.bool, true, true⟩] := by
  refine (ftab_some (ss := (.c (.val (.st (.pair (.sl (.st (.pair (.int .i64) (.int .i64)))) (.pair (.int .i64) (.sl (.sl (.int .i64))))))) (.c (.val (.int .i64)) .e))) (x := (a0, a1, ())) rfl some).trans ?_
  show laws_FnExactCountResults 4194304 a0 a1 (fun (r0 : Bool) => some [(⟨.bool, r0, true⟩ : Res)]) = _
  rw [law_FnExactCountResults a0 w0 a1 w1]
theorem lifted (os : Os) (started : os.Started) (H : Type) (enc : TypeId × Value → H) :
    ReturnsInHanded {} Try.checked os 9 .any (Rows.fnExactCountResultsSpec.pre6 enc Try.prog Try.f9 Rows.fnExactCountResultsRow.domain false) (Rows.fnExactCountResultsSpec.post enc Try.prog Try.f9 false true false false) := by
  refine returnsInHanded_of_change_sized (C := Try.checked) own started (by kernel_rfl) Try.func9
    (ChangeSpec.witness6 (enc := enc) (C := Try.checked) false ⟨#[], #[.agg #[.slice none 0 0, .int .i64 0, .slice none 0 0], .int .i64 0], []⟩ 8 (by kernel_rfl) (by kernel_rfl) (by kernel_rfl) (by kernel_rfl)) ?_
  intro W base args ds gs before hval0 hW hcnd hsz0 _
  have hval : ∀ (j : Nat) t v, Try.f9.params[j]? = some t → args[j]? = some v → Value.okWide Try.prog W .any base t v := hval0
  have hW' := hW
  obtain ⟨p, q, hA0, hV, rfl, hfz, hnd⟩ := hW
  have hA : DataW.TrodAll enc Try.prog W 0 (fun _ => true) true Try.f9.params.toList args.toList ds p := hA0
  have hlt := DataW.TrodAll.lt hA
  rw [Try.params9] at hA hval
  obtain ⟨v0, vs0, d0, ds0, p0, q0, hargs, rfl, rfl, h0, r0⟩ := trodAll_cons hA
  obtain ⟨v1, vs1, d1, ds1, p1, q1, rfl, rfl, rfl, h1, r1⟩ := trodAll_cons r0
  obtain ⟨rfl, rfl, rfl⟩ := trodAll_nil r1
  obtain rfl : args = #[v0, v1] := by cases args; simp_all
  obtain ⟨rfl, rfl⟩ := trodVars_none hV
  obtain ⟨a0, wa0, ra0⟩ := arg_rep (TieCountResults.types.ok 25 _ rfl) (hval 0 25 v0 rfl rfl) h0
  obtain ⟨a1, wa1, ra1⟩ := arg_rep (TieCountResults.types.ok 3 _ rfl) (hval 1 3 v1 rfl rfl) h1
  refine (law_call (TieCountResults.s_laws_FnExactCountResults 4194304) (args := [.val _ a0, .val _ a1]) (vals := [v0, v1]) (W := W) (G := fun k => inPs (p0 ++ (p1 ++ ([] : List MemPlace))) k) ?_ ⟨v0, [v1], rfl, ValRep_mono (fun k hk => (by obtain ⟨x, hx, e⟩ := hk; exact ⟨x, by simp [hx], e⟩)) (fun _ _ => rfl) ra0, v1, [], rfl, ValRep_mono (fun k hk => (by obtain ⟨x, hx, e⟩ := hk; exact ⟨x, by simp [hx], e⟩)) (fun _ _ => rfl) ra1, rfl⟩ ?_ (plain a0 a1 wa0 wa1)).mono fun e W' ⟨he, bel⟩ => ?_
  · rintro k ⟨x, hx, rfl⟩
    exact hlt x (by simpa using hx)
  · exact fun g => trivial
  subst he
  exact ⟨_, rfl, _, _, _, [], _, [], hW', trodAll_mk1 (shut_bool Try.underlying4 _), (trodAll_cons_mk (Below.trod (by kernel_rfl) (by kernel_rfl) (of_decide_eq_true (by kernel_rfl)) h0 bel (fun x hx => hlt x (by simp [hx]))) (trodAll_cons_mk (Below.trod (by kernel_rfl) (by kernel_rfl) (of_decide_eq_true (by kernel_rfl)) h1 bel (fun x hx => hlt x (by simp [hx]))) trodAll_mk0)), rfl, bel.frame _, fun h => by cases h⟩
theorem over : Rows.fnExactCountResultsRow.holds Try.pinned (OpenSpec.ofChange Rows.fnExactCountResultsSpec) :=
  OpenClaim.holds_of_wide 9 Try.f9 rfl rfl rfl rfl rfl rfl rfl ⟨rfl, rfl, rfl, rfl, rfl⟩ rfl rfl rfl rfl rfl (by kernel_rfl) Try.func9 (by kernel_rfl)
    (of_decide_eq_true (by kernel_rfl)) (by unfold Func.isWrapper; first | (rw [if_pos (by decide +kernel)]; kernel_rfl) | (rw [if_neg (by decide +kernel)]; exact ⟨rfl, rfl⟩))
    (fun os started H enc _ => lifted os started H enc)
end Go.Proofs.Ytncllndlbeghjaa.fnExactCountResults
namespace Go.Proofs.Ytncllndlbeghjaa
open Go
theorem fnExactCountResults_holds : Rows.FnExactCountResultsSaid := fnExactCountResults.over
#print axioms fnExactCountResults_holds
end Go.Proofs.Ytncllndlbeghjaa
