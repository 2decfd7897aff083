/- Proved: FnExactNearOnCardSaid of the seat YtllmbnfceffgmaaDoor: the law NearOn returns true for every input, and each argument reads behind the call as it did; conditions: those of the given row, no other. -/
import Derived.Test.YtllmbnfceffgmaaDoorEv3
import Derived.Test.YtllmbnfceffgmaaDoorTNearOn
import Derived.Test.YtllmbnfceffgmaaDoorLgBMCLCMCOFLFM
import Derived.Test.YtllmbnfceffgmaaDoorRows
import Derived.WalkKit
import Derived.ProofKit
import Derived.OpenShut
import Derived.ShutString
import Derived.ChangeOld
import Derived.Below
import Derived.Carry
import Derived.SizedLaws
import Derived.LaidMore
import Derived.Stop.Joined
import Derived.OpenVars
import Derived.SevenTiedAt
import Derived.MakeChecks
import Derived.Test.YtllmbnfceffgmaaDoorTie
import Derived.Test.YtllmbnfceffgmaaDoorCards
set_option linter.unusedVariables false
set_option linter.unusedSimpArgs false
set_option linter.unusedSectionVars false
namespace Go.Proofs.YtllmbnfceffgmaaDoor.fnExactNearOn
open Go Go.Ev Go.Lg Go.Proofs Go.ChangeShapes Go.WideShapes Go.ChangeAt Go.RowKit
set_option linter.unusedVariables false
set_option maxRecDepth 100000
theorem own : ownKnob Tryd.prog.godebug = none := by kernel_rfl
theorem plain (a0 : ((.st (.pair (.int .i64) (.pair (.int .i64) (.pair (.sl (.int .i64)) (.pair (.sl (.int .i64)) (.sl (.int .i64))))))) : Ty).den) (a1 : ((.int .i64) : Ty).den) (a2 : ((.int .i64) : Ty).den) (w0 : Wf ((.st (.pair (.int .i64) (.pair (.int .i64) (.pair (.sl (.int .i64)) (.pair (.sl (.int .i64)) (.sl (.int .i64)))))))) a0) (w1 : Wf ((.int .i64)) a1) (w2 : Wf ((.int .i64)) a2) : ftab (.c (.val (.st (.pair (.int .i64) (.pair (.int .i64) (.pair (.sl (.int .i64)) (.pair (.sl (.int .i64)) (.sl (.int .i64)))))))) (.c (.val (.int .i64)) (.c (.val (.int .i64)) .e))) (TieNearOn.F_laws_FnExactNearOn 4194304) [.val _ a0, .val _ a1, .val _ a2] some = some [⟨.bool, true, true⟩] := by
  refine (ftab_some (ss := (.c (.val (.st (.pair (.int .i64) (.pair (.int .i64) (.pair (.sl (.int .i64)) (.pair (.sl (.int .i64)) (.sl (.int .i64)))))))) (.c (.val (.int .i64)) (.c (.val (.int .i64)) .e)))) (x := (a0, a1, a2, ())) rfl some).trans ?_
  show laws_FnExactNearOn 4194304 a0 a1 a2 (fun (r0 : Bool) => some [(⟨.bool, r0, true⟩ : Res)]) = _
  rw [law_FnExactNearOn a0 w0 a1 w1 a2 w2]
theorem door_met (os : Os) (args : Array Value) : laidMetH Tryd.prog Rows.fnExactNearOnRow.laid ((World.doorLaid Tryd.prog 4000 os).forCall (fun _ _ => 0) ⟨#[], args, []⟩).memory :=
  laidMetH_of_parts3 (fuel := 8) (laidMet_of_run' 8 (by kernel_rfl) (by kernel_rfl)) (by kernel_rfl) (by kernel_rfl)
theorem lifted (os : Os) (started : os.Started) (H : Type) (enc : TypeId × Value → H) :
    ReturnsInHanded {} Tryd.checked os 12 .any (fun w args => (Rows.fnExactNearOnSpec.pre enc Tryd.prog Tryd.f12 Rows.fnExactNearOnRow.domain false w args ∧ laidMetH Tryd.prog Rows.fnExactNearOnRow.laid w) ∧ sizedMet enc Tryd.prog Tryd.f12 (OpenSpec.ofChange Rows.fnExactNearOnSpec) false w args) (Rows.fnExactNearOnSpec.post enc Tryd.prog Tryd.f12 false true false false) := by
  refine returnsInHanded_of_change_and (C := Tryd.checked) (X := fun w _ => laidMetH Tryd.prog Rows.fnExactNearOnRow.laid w) (fun _ _ _ hh h => h.of_heap hh) own started (by kernel_rfl) Tryd.func12
    (ChangeSpec.witness_shaped (enc := enc) (C := Tryd.checked) (os := os) (X := fun w _ => laidMetH Tryd.prog Rows.fnExactNearOnRow.laid w) false (World.doorLaid Tryd.prog 4000 os) #[.agg #[.int .i64 0, .int .i64 0, .slice none 0 0, .slice none 0 0, .slice none 0 0], .int .i64 0, .int .i64 0] 8 rfl (World.shaped_of_RefB (by kernel_rfl) (by kernel_rfl)) (by kernel_rfl) (by kernel_rfl) (by kernel_rfl) (door_met os _)) ?_
  intro W base args ds gs before hval0 hW _ _ hL _
  have hval : ∀ (j : Nat) t v, Tryd.f12.params[j]? = some t → args[j]? = some v → Value.okWide Tryd.prog W .any base t v := hval0
  have hW' := hW
  obtain ⟨p, q, hA0, hV, rfl, hfz, hnd⟩ := hW
  have hA : DataW.TrodAll enc Tryd.prog W 0 (fun _ => true) true Tryd.f12.params.toList args.toList ds p := hA0
  have hlt := DataW.TrodAll.lt hA
  rw [Tryd.params12] at hA hval
  obtain ⟨v0, vs0, d0, ds0, p0, q0, hargs, rfl, rfl, h0, r0⟩ := trodAll_cons hA
  obtain ⟨v1, vs1, d1, ds1, p1, q1, rfl, rfl, rfl, h1, r1⟩ := trodAll_cons r0
  obtain ⟨v2, vs2, d2, ds2, p2, q2, rfl, rfl, rfl, h2, r2⟩ := trodAll_cons r1
  obtain ⟨rfl, rfl, rfl⟩ := trodAll_nil r2
  obtain rfl : args = #[v0, v1, v2] := by cases args; simp_all
  obtain ⟨g0, gs0, u0, rfl, k0⟩ := trodVars_split hV
  obtain ⟨rfl, _⟩ := trodVars_none k0
  obtain ⟨a0, wa0, ra0⟩ := arg_rep (TieNearOn.types.ok 30 _ rfl) (hval 0 30 v0 rfl rfl) h0
  obtain ⟨a1, wa1, ra1⟩ := arg_rep (TieNearOn.types.ok 3 _ rfl) (hval 1 3 v1 rfl rfl) h1
  obtain ⟨a2, wa2, ra2⟩ := arg_rep (TieNearOn.types.ok 3 _ rfl) (hval 2 3 v2 rfl rfl) h2
  rw [MakeChecks.laidMetH_plain _ _ _ (by kernel_rfl)] at hL
  obtain ⟨hg0, at0⟩ := glob_at (T := (.arr 6 (.st (.pair (.int .i64) (.int .i64))))) (x := impl_directions) (d := Rows.laid_loop_example_g00886_impl_directions) (i := 0) (n := "loop.example/g00886/impl.directions") (g := 0) (TieNearOn.types.ok 101 _ rfl) rfl hL (by kernel_rfl) (by kernel_rfl) rfl rfl
  refine (law_call (TieNearOn.s_laws_FnExactNearOn 4194304) (args := [.val _ a0, .val _ a1, .val _ a2]) (vals := [v0, v1, v2]) (W := W) (G := fun k => inPs (p0 ++ (p1 ++ (p2 ++ ([] : List MemPlace)))) k ∨ k = 0) ?_ ⟨v0, [v1, v2], rfl, ValRep_mono (fun k hk => .inl (by obtain ⟨x, hx, e⟩ := hk; exact ⟨x, by simp [hx], e⟩)) (fun _ _ => rfl) ra0, v1, [v2], rfl, ValRep_mono (fun k hk => .inl (by obtain ⟨x, hx, e⟩ := hk; exact ⟨x, by simp [hx], e⟩)) (fun _ _ => rfl) ra1, v2, [], rfl, ValRep_mono (fun k hk => .inl (by obtain ⟨x, hx, e⟩ := hk; exact ⟨x, by simp [hx], e⟩)) (fun _ _ => rfl) ra2, rfl⟩ ?_ (plain a0 a1 a2 wa0 wa1 wa2)).mono fun e W' ⟨he, bel⟩ => ?_
  · rintro k (⟨x, hx, rfl⟩ | rfl)
    · exact hlt x (by simpa using hx)
    · exact hg0
  · intro g
    unfold TieNearOn.glob
    cases hb0 : Nat.beq g 0 with
    | true =>
      have hgb := Nat.eq_of_beq_eq_true hb0
      subst hgb
      exact ⟨_, rfl, at0 _ (.inr rfl)⟩
    | false =>
      exact trivial
  subst he
  exact ⟨_, rfl, _, _, _, [], _, _, hW', trodAll_mk1 (shut_bool Tryd.underlying4 _), (trodAll_cons_mk (Below.trod (by kernel_rfl) (by kernel_rfl) (of_decide_eq_true (by kernel_rfl)) h0 bel (fun x hx => hlt x (by simp [hx]))) (trodAll_cons_mk (Below.trod (by kernel_rfl) (by kernel_rfl) (of_decide_eq_true (by kernel_rfl)) h1 bel (fun x hx => hlt x (by simp [hx]))) (trodAll_cons_mk (Below.trod (by kernel_rfl) (by kernel_rfl) (of_decide_eq_true (by kernel_rfl)) h2 bel (fun x hx => hlt x (by simp [hx]))) trodAll_mk0))), Below.trodVars (by kernel_rfl) bel (by kernel_rfl) hV, bel.frame _, fun h => by cases h⟩
theorem over : Rows.fnExactNearOnRow.holds Tryd.pinned (OpenSpec.ofChange Rows.fnExactNearOnSpec) :=
  OpenClaim.holds_of_wide 12 Tryd.f12 rfl rfl rfl rfl rfl rfl rfl ⟨rfl, rfl, rfl, rfl, rfl⟩ rfl rfl rfl rfl rfl (by kernel_rfl) Tryd.func12 (by kernel_rfl)
    (of_decide_eq_true (by kernel_rfl)) (by unfold Func.isWrapper; first | (rw [if_pos (by decide +kernel)]; kernel_rfl) | (rw [if_neg (by decide +kernel)]; exact ⟨rfl, rfl⟩))
    (fun os started H enc _ => lifted os started H enc)
theorem carded : Rows.FnExactNearOnCardSaid :=
  Claim7.holds_tied_plain_at .later [] [.data] true (true, "d4c5a2150e5635bc29702ea814afed9d33feec25723fcd3a1d8ba656fd4f057e") true
    over (fun _ h => by cases h) (by kernel_rfl) (fun _ h => by cases h) fnExactNearOn_row_tie rfl ⟨rfl, rfl⟩ (by kernel_rfl) rfl
    (fun f fn hf hfn => by
      obtain rfl : f = 12 := Option.some.inj ((show Tryd.prog.funcNamed "loop.example/g00886/laws.FnExactNearOn" = some 12 by kernel_rfl).symm.trans hf) |>.symm
      obtain rfl : fn = Tryd.f12 := (Option.some.inj (Tryd.func12.symm.trans hfn)).symm
      exact ⟨by kernel_rfl, fun j t ht => by
        rw [Tryd.params12] at ht
        have hm : t ∈ [30, 3, 3] := by simpa using Array.mem_of_getElem? ht
        have hall : ([30, 3, 3].all fun u => !Tryd.prog.wantsStandIn u) = true := by kernel_rfl
        exact (show Tryd.prog.wantsStandIn t = false by simpa using List.all_eq_true.1 hall t hm)⟩)
    (by kernel_rfl)
end Go.Proofs.YtllmbnfceffgmaaDoor.fnExactNearOn
namespace Go.Proofs.YtllmbnfceffgmaaDoor
open Go
theorem fnExactNearOn_holds : Rows.FnExactNearOnCardSaid := fnExactNearOn.carded
#print axioms fnExactNearOn_holds
end Go.Proofs.YtllmbnfceffgmaaDoor
