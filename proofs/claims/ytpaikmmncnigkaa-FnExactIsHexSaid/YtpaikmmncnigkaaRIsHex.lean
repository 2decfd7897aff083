/- Proved: FnExactIsHexSaid of the seat Ytpaikmmncnigkaa: the law IsHex returns true for every input, and each argument reads behind the call as it did; conditions: those of the given row, no other. -/
import Derived.Test.YtpaikmmncnigkaaEv2
import Derived.Test.YtpaikmmncnigkaaTIsHex
import Derived.Test.YtpaikmmncnigkaaLg0ATAL
import Derived.Test.YtpaikmmncnigkaaRows
import Derived.WalkKit
import Derived.ProofKit
import Derived.OpenShut
import Derived.ShutString
import Derived.ChangeOld
import Derived.Below
import Derived.Carry
import Derived.SizedLaws
namespace Go.Proofs.Ytpaikmmncnigkaa.fnExactIsHex
open Go Go.Ev Go.Lg Go.Proofs Go.ChangeShapes Go.WideShapes Go.ChangeAt Go.RowKit
set_option linter.unusedVariables false
set_option maxRecDepth 100000
theorem own : ownKnob Try.prog.godebug = none := by kernel_rfl
theorem plain (a0 : ((.st (.pair (.int .i64) (.int .i64))) : Ty).den) (w0 : Wf ((.st (.pair (.int .i64) (.int .i64)))) a0) : ftab (.c (.val (.st (.pair (.int .i64) (.int .i64)))) .e) (TieIsHex.F_laws_FnExactIsHex 4194304) [.val _ a0] some = some [⟨.bool, true, true⟩] := by
  show laws_FnExactIsHex a0 (fun (r0 : Bool) => some [(⟨.bool, r0, true⟩ : Res)]) = _
  rw [law_FnExactIsHex a0 w0]
theorem lifted (os : Os) (started : os.Started) (H : Type) (enc : TypeId × Value → H) :
    ReturnsInHanded {} Try.checked os 4 .any (Rows.fnExactIsHexSpec.pre6 enc Try.prog Try.f4 Rows.fnExactIsHexRow.domain false) (Rows.fnExactIsHexSpec.post enc Try.prog Try.f4 false true false false) := by
  refine returnsInHanded_of_change_sized (C := Try.checked) own started (by kernel_rfl) Try.func4
    (ChangeSpec.witness6 (enc := enc) (C := Try.checked) false ⟨#[], #[.agg #[.int .i64 0, .int .i64 0]], []⟩ 8 (by kernel_rfl) (by kernel_rfl) (by kernel_rfl) (by kernel_rfl)) ?_
  intro W base args ds gs before hval0 hW hcnd hsz0 _
  have hval : ∀ (j : Nat) t v, Try.f4.params[j]? = some t → args[j]? = some v → Value.okWide Try.prog W .any base t v := hval0
  have hW' := hW
  obtain ⟨p, q, hA0, hV, rfl, hfz, hnd⟩ := hW
  have hA : DataW.TrodAll enc Try.prog W 0 (fun _ => true) true Try.f4.params.toList args.toList ds p := hA0
  have hlt := DataW.TrodAll.lt hA
  rw [Try.params4] at hA hval
  obtain ⟨v0, vs0, d0, ds0, p0, q0, hargs, rfl, rfl, h0, r0⟩ := trodAll_cons hA
  obtain ⟨rfl, rfl, rfl⟩ := trodAll_nil r0
  obtain rfl : args = #[v0] := by cases args; simp_all
  obtain ⟨rfl, rfl⟩ := trodVars_none hV
  obtain ⟨a0, wa0, ra0⟩ := arg_rep (TieIsHex.types.ok 24 _ rfl) (hval 0 24 v0 rfl rfl) h0
  refine (law_call (TieIsHex.s_laws_FnExactIsHex 4194304) (args := [.val _ a0]) (vals := [v0]) (W := W) (G := fun k => inPs (p0 ++ ([] : List MemPlace)) k) ?_ ⟨v0, [], rfl, ValRep_mono (fun k hk => (by obtain ⟨x, hx, e⟩ := hk; exact ⟨x, by simp [hx], e⟩)) (fun _ _ => rfl) ra0, rfl⟩ ?_ (plain a0 wa0)).mono fun e W' ⟨he, bel⟩ => ?_
  · rintro k ⟨x, hx, rfl⟩
    exact hlt x (by simpa using hx)
  · exact fun g => trivial
  subst he
  exact ⟨_, rfl, _, _, _, [], _, [], hW', trodAll_mk1 (shut_bool Try.underlying4 _), (trodAll_cons_mk (Below.trod (by kernel_rfl) (by kernel_rfl) (of_decide_eq_true (by kernel_rfl)) h0 bel (fun x hx => hlt x (by simp [hx]))) trodAll_mk0), rfl, bel.frame _, fun h => by cases h⟩
theorem over : Rows.fnExactIsHexRow.holds Try.pinned (OpenSpec.ofChange Rows.fnExactIsHexSpec) :=
  OpenClaim.holds_of_wide 4 Try.f4 rfl rfl rfl rfl rfl rfl rfl ⟨rfl, rfl, rfl, rfl, rfl⟩ rfl rfl rfl rfl rfl (by kernel_rfl) Try.func4 (by kernel_rfl)
    (of_decide_eq_true (by kernel_rfl)) (by unfold Func.isWrapper; first | (rw [if_pos (by decide +kernel)]; kernel_rfl) | (rw [if_neg (by decide +kernel)]; exact ⟨rfl, rfl⟩))
    (fun os started H enc _ => lifted os started H enc)
end Go.Proofs.Ytpaikmmncnigkaa.fnExactIsHex
namespace Go.Proofs.Ytpaikmmncnigkaa
open Go
theorem fnExactIsHex_holds : Rows.FnExactIsHexSaid := fnExactIsHex.over
#print axioms fnExactIsHex_holds
end Go.Proofs.Ytpaikmmncnigkaa
