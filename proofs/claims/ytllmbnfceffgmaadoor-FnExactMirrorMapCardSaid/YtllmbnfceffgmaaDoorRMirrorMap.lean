/- Proved: FnExactMirrorMapCardSaid of the seat YtllmbnfceffgmaaDoor: the law MirrorMap returns true for every input, and each argument reads behind the call as it did; conditions: those of the given row, no other. -/
import Derived.Test.YtllmbnfceffgmaaDoorEv3
import Derived.Test.YtllmbnfceffgmaaDoorTMirrorMap
import Derived.Test.YtllmbnfceffgmaaDoorLg1
import Derived.Test.YtllmbnfceffgmaaDoorRows
import Derived.WalkKit
import Derived.ProofKit
import Derived.OpenShut
import Derived.ShutString
import Derived.ChangeOld
import Derived.Below
import Derived.Carry
import Derived.SizedLaws
import Derived.LaidMore
import Derived.Stop.Joined
import Derived.OpenVars
import Derived.SevenTiedAt
import Derived.MakeChecks
import Derived.Test.YtllmbnfceffgmaaDoorTie
import Derived.Test.YtllmbnfceffgmaaDoorCards
set_option linter.unusedVariables false
set_option linter.unusedSimpArgs false
set_option linter.unusedSectionVars false
namespace Go.Proofs.YtllmbnfceffgmaaDoor.fnExactMirrorMap
open Go Go.Ev Go.Lg Go.Proofs Go.ChangeShapes Go.WideShapes Go.ChangeAt Go.RowKit
set_option linter.unusedVariables false
set_option maxRecDepth 100000
theorem own : ownKnob Tryd.prog.godebug = none := by kernel_rfl
theorem plain (a0 : ((.st (.pair (.int .i64) (.pair (.int .i64) (.pair (.sl (.int .i64)) (.pair (.sl (.int .i64)) (.sl (.int .i64))))))) : Ty).den) (w0 : Wf ((.st (.pair (.int .i64) (.pair (.int .i64) (.pair (.sl (.int .i64)) (.pair (.sl (.int .i64)) (.sl (.int .i64)))))))) a0) : ftab (.c (.val (.st (.pair (.int .i64) (.pair (.int .i64) (.pair (.sl (.int .i64)) (.pair (.sl (.int .i64)) (.sl (.int .i64)))))))) .e) (TieMirrorMap.F_laws_FnExactMirrorMap 4194304) [.val _ a0] some = some [⟨.bool, true, true⟩] := by
  refine (ftab_some (ss := (.c (.val (.st (.pair (.int .i64) (.pair (.int .i64) (.pair (.sl (.int .i64)) (.pair (.sl (.int .i64)) (.sl (.int .i64)))))))) .e)) (x := (a0, ())) rfl some).trans ?_
  show laws_FnExactMirrorMap 4194304 a0 (fun (r0 : Bool) => some [(⟨.bool, r0, true⟩ : Res)]) = _
  rw [law_FnExactMirrorMap a0 w0]
theorem door_met (os : Os) (args : Array Value) : laidMetH Tryd.prog Rows.fnExactMirrorMapRow.laid ((World.doorLaid Tryd.prog 4000 os).forCall (fun _ _ => 0) ⟨#[], args, []⟩).memory :=
  laidMetH_of_parts3 (fuel := 8) (laidMet_of_run' 8 (by kernel_rfl) (by kernel_rfl)) (by kernel_rfl) (by kernel_rfl)
theorem lifted (os : Os) (started : os.Started) (H : Type) (enc : TypeId × Value → H) :
    ReturnsInHanded {} Tryd.checked os 14 .any (fun w args => (Rows.fnExactMirrorMapSpec.pre enc Tryd.prog Tryd.f14 Rows.fnExactMirrorMapRow.domain false w args ∧ laidMetH Tryd.prog Rows.fnExactMirrorMapRow.laid w) ∧ sizedMet enc Tryd.prog Tryd.f14 (OpenSpec.ofChange Rows.fnExactMirrorMapSpec) false w args) (Rows.fnExactMirrorMapSpec.post enc Tryd.prog Tryd.f14 false true false false) := by
  refine returnsInHanded_of_change_and (C := Tryd.checked) (X := fun w _ => laidMetH Tryd.prog Rows.fnExactMirrorMapRow.laid w) (fun _ _ _ hh h => h.of_heap hh) own started (by kernel_rfl) Tryd.func14
    (ChangeSpec.witness_shaped (enc := enc) (C := Tryd.checked) (os := os) (X := fun w _ => laidMetH Tryd.prog Rows.fnExactMirrorMapRow.laid w) false (World.doorLaid Tryd.prog 4000 os) #[.agg #[.int .i64 0, .int .i64 0, .slice none 0 0, .slice none 0 0, .slice none 0 0]] 8 rfl (World.shaped_of_RefB (by kernel_rfl) (by kernel_rfl)) (by kernel_rfl) (by kernel_rfl) (by kernel_rfl) (door_met os _)) ?_
  intro W base args ds gs before hval0 hW _ _ hL _
  have hval : ∀ (j : Nat) t v, Tryd.f14.params[j]? = some t → args[j]? = some v → Value.okWide Tryd.prog W .any base t v := hval0
  have hW' := hW
  obtain ⟨p, q, hA0, hV, rfl, hfz, hnd⟩ := hW
  have hA : DataW.TrodAll enc Tryd.prog W 0 (fun _ => true) true Tryd.f14.params.toList args.toList ds p := hA0
  have hlt := DataW.TrodAll.lt hA
  rw [Tryd.params14] at hA hval
  obtain ⟨v0, vs0, d0, ds0, p0, q0, hargs, rfl, rfl, h0, r0⟩ := trodAll_cons hA
  obtain ⟨rfl, rfl, rfl⟩ := trodAll_nil r0
  obtain rfl : args = #[v0] := by cases args; simp_all
  obtain ⟨g0, gs0, u0, rfl, k0⟩ := trodVars_split hV
  obtain ⟨rfl, _⟩ := trodVars_none k0
  obtain ⟨a0, wa0, ra0⟩ := arg_rep (TieMirrorMap.types.ok 30 _ rfl) (hval 0 30 v0 rfl rfl) h0
  rw [MakeChecks.laidMetH_plain _ _ _ (by kernel_rfl)] at hL
  obtain ⟨hg0, at0⟩ := glob_at (T := (.arr 6 (.st (.pair (.int .i64) (.int .i64))))) (x := impl_directions) (d := Rows.laid_loop_example_g00886_impl_directions) (i := 0) (n := "loop.example/g00886/impl.directions") (g := 0) (TieMirrorMap.types.ok 101 _ rfl) rfl hL (by kernel_rfl) (by kernel_rfl) rfl rfl
  refine (law_call (TieMirrorMap.s_laws_FnExactMirrorMap 4194304) (args := [.val _ a0]) (vals := [v0]) (W := W) (G := fun k => inPs (p0 ++ ([] : List MemPlace)) k ∨ k = 0) ?_ ⟨v0, [], rfl, ValRep_mono (fun k hk => .inl (by obtain ⟨x, hx, e⟩ := hk; exact ⟨x, by simp [hx], e⟩)) (fun _ _ => rfl) ra0, rfl⟩ ?_ (plain a0 wa0)).mono fun e W' ⟨he, bel⟩ => ?_
  · rintro k (⟨x, hx, rfl⟩ | rfl)
    · exact hlt x (by simpa using hx)
    · exact hg0
  · intro g
    unfold TieMirrorMap.glob
    cases hb0 : Nat.beq g 0 with
    | true =>
      have hgb := Nat.eq_of_beq_eq_true hb0
      subst hgb
      exact ⟨_, rfl, at0 _ (.inr rfl)⟩
    | false =>
      exact trivial
  subst he
  exact ⟨_, rfl, _, _, _, [], _, _, hW', trodAll_mk1 (shut_bool Tryd.underlying4 _), (trodAll_cons_mk (Below.trod (by kernel_rfl) (by kernel_rfl) (of_decide_eq_true (by kernel_rfl)) h0 bel (fun x hx => hlt x (by simp [hx]))) trodAll_mk0), Below.trodVars (by kernel_rfl) bel (by kernel_rfl) hV, bel.frame _, fun h => by cases h⟩
theorem over : Rows.fnExactMirrorMapRow.holds Tryd.pinned (OpenSpec.ofChange Rows.fnExactMirrorMapSpec) :=
  OpenClaim.holds_of_wide 14 Tryd.f14 rfl rfl rfl rfl rfl rfl rfl ⟨rfl, rfl, rfl, rfl, rfl⟩ rfl rfl rfl rfl rfl (by kernel_rfl) Tryd.func14 (by kernel_rfl)
    (of_decide_eq_true (by kernel_rfl)) (by unfold Func.isWrapper; first | (rw [if_pos (by decide +kernel)]; kernel_rfl) | (rw [if_neg (by decide +kernel)]; exact ⟨rfl, rfl⟩))
    (fun os started H enc _ => lifted os started H enc)
theorem carded : Rows.FnExactMirrorMapCardSaid :=
  Claim7.holds_tied_plain_at .later [] [.data] true (true, "d4c5a2150e5635bc29702ea814afed9d33feec25723fcd3a1d8ba656fd4f057e") true
    over (fun _ h => by cases h) (by kernel_rfl) (fun _ h => by cases h) fnExactMirrorMap_row_tie rfl ⟨rfl, rfl⟩ (by kernel_rfl) rfl
    (fun f fn hf hfn => by
      obtain rfl : f = 14 := Option.some.inj ((show Tryd.prog.funcNamed "loop.example/g00886/laws.FnExactMirrorMap" = some 14 by kernel_rfl).symm.trans hf) |>.symm
      obtain rfl : fn = Tryd.f14 := (Option.some.inj (Tryd.func14.symm.trans hfn)).symm
      exact ⟨by kernel_rfl, fun j t ht => by
        rw [Tryd.params14] at ht
        have hm : t ∈ [30] := by simpa using Array.mem_of_getElem? ht
        have hall : ([30].all fun u => !Tryd.prog.wantsStandIn u) = true := by kernel_rfl
        exact (show Tryd.prog.wantsStandIn t = false by simpa using List.all_eq_true.1 hall t hm)⟩)
    (by kernel_rfl)
end Go.Proofs.YtllmbnfceffgmaaDoor.fnExactMirrorMap
namespace Go.Proofs.YtllmbnfceffgmaaDoor
open Go
theorem fnExactMirrorMap_holds : Rows.FnExactMirrorMapCardSaid := fnExactMirrorMap.carded
#print axioms fnExactMirrorMap_holds
end Go.Proofs.YtllmbnfceffgmaaDoor
