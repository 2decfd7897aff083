/- Proved: FnExactMissingTerrainsCardSaid of the seat YtbfbeaghmlkjkaaDoor: the law MissingTerrains returns true for every input, and each argument reads behind the call as it did; conditions: those of the given row, no other. -/
import Derived.Test.YtbfbeaghmlkjkaaDoorEv3
import Derived.Test.YtbfbeaghmlkjkaaDoorTMissingTerrains
import Derived.Test.YtbfbeaghmlkjkaaDoorLgKL
import Derived.Test.YtbfbeaghmlkjkaaDoorRows
import Derived.WalkKit
import Derived.ProofKit
import Derived.OpenShut
import Derived.ShutString
import Derived.ChangeOld
import Derived.Below
import Derived.Carry
import Derived.SizedLaws
import Derived.LaidMore
import Derived.Stop.Joined
import Derived.OpenVars
import Derived.SevenTiedAt
import Derived.MakeChecks
import Derived.Test.YtbfbeaghmlkjkaaDoorTie
import Derived.Test.YtbfbeaghmlkjkaaDoorCards
set_option linter.unusedVariables false
set_option linter.unusedSimpArgs false
set_option linter.unusedSectionVars false
namespace Go.Proofs.YtbfbeaghmlkjkaaDoor.fnExactMissingTerrains
open Go Go.Ev Go.Lg Go.Proofs Go.ChangeShapes Go.WideShapes Go.ChangeAt Go.RowKit
set_option linter.unusedVariables false
set_option maxRecDepth 100000
theorem own : ownKnob Tryd.prog.godebug = none := by kernel_rfl
theorem plain (a0 : ((.st (.pair (.sl (.st (.pair .str (.pair (.sl (.int .i64)) (.pair (.int .i64) (.pair (.int .i64) .bool)))))) (.pair (.sl (.st (.pair .str (.pair (.int .i64) (.pair (.int .i64) (.pair (.int .i64) (.pair .bool (.int .i64)))))))) (.pair (.int .i64) (.pair (.int .i64) (.pair (.int .i64) (.pair (.int .i64) (.int .i64)))))))) : Ty).den) (a1 : ((.st (.pair (.int .i64) (.pair (.int .i64) (.pair (.sl (.int .i64)) (.pair (.sl (.int .i64)) (.sl (.int .i64))))))) : Ty).den) (w0 : Wf ((.st (.pair (.sl (.st (.pair .str (.pair (.sl (.int .i64)) (.pair (.int .i64) (.pair (.int .i64) .bool)))))) (.pair (.sl (.st (.pair .str (.pair (.int .i64) (.pair (.int .i64) (.pair (.int .i64) (.pair .bool (.int .i64)))))))) (.pair (.int .i64) (.pair (.int .i64) (.pair (.int .i64) (.pair (.int .i64) (.int .i64))))))))) a0) (w1 : Wf ((.st (.pair (.int .i64) (.pair (.int .i64) (.pair (.sl (.int .i64)) (.pair (.sl (.int .i64)) (.sl (.int .i64)))))))) a1) : ftab (.c (.val (.st (.pair (.sl (.st (.pair .str (.pair (.sl (.int .i64)) (.pair (.int .i64) (.pair (.int .i64) .bool)))))) (.pair (.sl (.st (.pair .str (.pair (.int .i64) (.pair (.int .i64) (.pair (.int .i64) (.pair .bool (.int .i64)))))))) (.pair (.int .i64) (.pair (.int .i64) (.pair (.int .i64) (.pair (.int .i64) (.int .i64))))))))) (.c (.val (.st (.pair (.int .i64) (.pair (.int .i64) (.pair (.sl (.int .i64)) (.pair (.sl (.int .i64)) (.sl (.int .i64)))))))) .e)) (TieMissingTerrains.F_laws_FnExactMissingTerrains 4194304) [.val _ a0, .val _ a1] some = some [⟨.bool, true, true⟩] := by
  refine (ftab_some (ss := (.c (.val (.st (.pair (.sl (.st (.pair .str (.pair (.sl (.int .i64)) (.pair (.int .i64) (.pair (.int .i64) .bool)))))) (.pair (.sl (.st (.pair .str (.pair (.int .i64) (.pair (.int .i64) (.pair (.int .i64) (.pair .bool (.int .i64)))))))) (.pair (.int .i64) (.pair (.int .i64) (.pair (.int .i64) (.pair (.int .i64) (.int .i64))))))))) (.c (.val (.st (.pair (.int .i64) (.pair (.int .i64) (.pair (.sl (.int .i64)) (.pair (.sl (.int .i64)) (.sl (.int .i64)))))))) .e))) (x := (a0, a1, ())) rfl some).trans ?_
  show laws_FnExactMissingTerrains 4194304 a0 a1 (fun (r0 : Bool) => some [(⟨.bool, r0, true⟩ : Res)]) = _
  rw [law_FnExactMissingTerrains a0 w0 a1 w1]
theorem door_met (os : Os) (args : Array Value) : laidMetH Tryd.prog Rows.fnExactMissingTerrainsRow.laid ((World.doorLaid Tryd.prog 4000 os).forCall (fun _ _ => 0) ⟨#[], args, []⟩).memory :=
  laidMetH_of_parts3 (fuel := 8) (laidMet_of_run' 8 (by kernel_rfl) (by kernel_rfl)) (by kernel_rfl) (by kernel_rfl)
theorem lifted (os : Os) (started : os.Started) (H : Type) (enc : TypeId × Value → H) :
    ReturnsInHanded {} Tryd.checked os 5 .any (fun w args => (Rows.fnExactMissingTerrainsSpec.pre enc Tryd.prog Tryd.f5 Rows.fnExactMissingTerrainsRow.domain false w args ∧ laidMetH Tryd.prog Rows.fnExactMissingTerrainsRow.laid w) ∧ sizedMet enc Tryd.prog Tryd.f5 (OpenSpec.ofChange Rows.fnExactMissingTerrainsSpec) false w args) (Rows.fnExactMissingTerrainsSpec.post enc Tryd.prog Tryd.f5 false true false false) := by
  refine returnsInHanded_of_change_and (C := Tryd.checked) (X := fun w _ => laidMetH Tryd.prog Rows.fnExactMissingTerrainsRow.laid w) (fun _ _ _ hh h => h.of_heap hh) own started (by kernel_rfl) Tryd.func5
    (ChangeSpec.witness_shaped (enc := enc) (C := Tryd.checked) (os := os) (X := fun w _ => laidMetH Tryd.prog Rows.fnExactMissingTerrainsRow.laid w) false (World.doorLaid Tryd.prog 4000 os) #[.agg #[.slice none 0 0, .slice none 0 0, .int .i64 0, .int .i64 0, .int .i64 0, .int .i64 0, .int .i64 0], .agg #[.int .i64 0, .int .i64 0, .slice none 0 0, .slice none 0 0, .slice none 0 0]] 8 rfl (World.shaped_of_RefB (by kernel_rfl) (by kernel_rfl)) (by kernel_rfl) (by kernel_rfl) (by kernel_rfl) (door_met os _)) ?_
  intro W base args ds gs before hval0 hW _ _ hL _
  have hval : ∀ (j : Nat) t v, Tryd.f5.params[j]? = some t → args[j]? = some v → Value.okWide Tryd.prog W .any base t v := hval0
  have hW' := hW
  obtain ⟨p, q, hA0, hV, rfl, hfz, hnd⟩ := hW
  have hA : DataW.TrodAll enc Tryd.prog W 0 (fun _ => true) true Tryd.f5.params.toList args.toList ds p := hA0
  have hlt := DataW.TrodAll.lt hA
  rw [Tryd.params5] at hA hval
  obtain ⟨v0, vs0, d0, ds0, p0, q0, hargs, rfl, rfl, h0, r0⟩ := trodAll_cons hA
  obtain ⟨v1, vs1, d1, ds1, p1, q1, rfl, rfl, rfl, h1, r1⟩ := trodAll_cons r0
  obtain ⟨rfl, rfl, rfl⟩ := trodAll_nil r1
  obtain rfl : args = #[v0, v1] := by cases args; simp_all
  obtain ⟨g0, gs0, u0, rfl, k0⟩ := trodVars_split hV
  obtain ⟨rfl, _⟩ := trodVars_none k0
  obtain ⟨a0, wa0, ra0⟩ := arg_rep (TieMissingTerrains.types.ok 25 _ rfl) (hval 0 25 v0 rfl rfl) h0
  obtain ⟨a1, wa1, ra1⟩ := arg_rep (TieMissingTerrains.types.ok 28 _ rfl) (hval 1 28 v1 rfl rfl) h1
  rw [MakeChecks.laidMetH_plain _ _ _ (by kernel_rfl)] at hL
  obtain ⟨hg1, at1⟩ := glob_at (T := (.arr 6 (.st (.pair (.int .i64) (.int .i64))))) (x := impl_directions) (d := Rows.laid_loop_example_g00886_impl_directions) (i := 0) (n := "loop.example/g00886/impl.directions") (g := 1) (TieMissingTerrains.types.ok 171 _ rfl) rfl hL (by kernel_rfl) (by kernel_rfl) rfl rfl
  refine (law_call (TieMissingTerrains.s_laws_FnExactMissingTerrains 4194304) (args := [.val _ a0, .val _ a1]) (vals := [v0, v1]) (W := W) (G := fun k => inPs (p0 ++ (p1 ++ ([] : List MemPlace))) k ∨ k = 1) ?_ ⟨v0, [v1], rfl, ValRep_mono (fun k hk => .inl (by obtain ⟨x, hx, e⟩ := hk; exact ⟨x, by simp [hx], e⟩)) (fun _ _ => rfl) ra0, v1, [], rfl, ValRep_mono (fun k hk => .inl (by obtain ⟨x, hx, e⟩ := hk; exact ⟨x, by simp [hx], e⟩)) (fun _ _ => rfl) ra1, rfl⟩ ?_ (plain a0 a1 wa0 wa1)).mono fun e W' ⟨he, bel⟩ => ?_
  · rintro k (⟨x, hx, rfl⟩ | rfl)
    · exact hlt x (by simpa using hx)
    · exact hg1
  · intro g
    unfold TieMissingTerrains.glob
    cases hb1 : Nat.beq g 1 with
    | true =>
      have hgb := Nat.eq_of_beq_eq_true hb1
      subst hgb
      exact ⟨_, rfl, at1 _ (.inr rfl)⟩
    | false =>
      exact trivial
  subst he
  exact ⟨_, rfl, _, _, _, [], _, _, hW', trodAll_mk1 (shut_bool Tryd.underlying4 _), (trodAll_cons_mk (Below.trod (by kernel_rfl) (by kernel_rfl) (of_decide_eq_true (by kernel_rfl)) h0 bel (fun x hx => hlt x (by simp [hx]))) (trodAll_cons_mk (Below.trod (by kernel_rfl) (by kernel_rfl) (of_decide_eq_true (by kernel_rfl)) h1 bel (fun x hx => hlt x (by simp [hx]))) trodAll_mk0)), Below.trodVars (by kernel_rfl) bel (by kernel_rfl) hV, bel.frame _, fun h => by cases h⟩
theorem over : Rows.fnExactMissingTerrainsRow.holds Tryd.pinned (OpenSpec.ofChange Rows.fnExactMissingTerrainsSpec) :=
  OpenClaim.holds_of_wide 5 Tryd.f5 rfl rfl rfl rfl rfl rfl rfl ⟨rfl, rfl, rfl, rfl, rfl⟩ rfl rfl rfl rfl rfl (by kernel_rfl) Tryd.func5 (by kernel_rfl)
    (of_decide_eq_true (by kernel_rfl)) (by unfold Func.isWrapper; first | (rw [if_pos (by decide +kernel)]; kernel_rfl) | (rw [if_neg (by decide +kernel)]; exact ⟨rfl, rfl⟩))
    (fun os started H enc _ => lifted os started H enc)
theorem carded : Rows.FnExactMissingTerrainsCardSaid :=
  Claim7.holds_tied_plain_at .later [] [.data] true (true, "5a86335038ae47da7653423544fd066c4714db72b91a6456163787ea49dc755b") false
    over (fun _ h => by cases h) (by kernel_rfl) (fun _ h => by cases h) fnExactMissingTerrains_row_tie rfl ⟨rfl, rfl⟩ (by kernel_rfl) rfl
    (fun f fn hf hfn => by
      obtain rfl : f = 5 := Option.some.inj ((show Tryd.prog.funcNamed "loop.example/g00886/laws.FnExactMissingTerrains" = some 5 by kernel_rfl).symm.trans hf) |>.symm
      obtain rfl : fn = Tryd.f5 := (Option.some.inj (Tryd.func5.symm.trans hfn)).symm
      exact ⟨by kernel_rfl, fun j t ht => by
        rw [Tryd.params5] at ht
        have hm : t ∈ [25, 28] := by simpa using Array.mem_of_getElem? ht
        have hall : ([25, 28].all fun u => !Tryd.prog.wantsStandIn u) = true := by kernel_rfl
        exact (show Tryd.prog.wantsStandIn t = false by simpa using List.all_eq_true.1 hall t hm)⟩)
    (by kernel_rfl)
end Go.Proofs.YtbfbeaghmlkjkaaDoor.fnExactMissingTerrains
namespace Go.Proofs.YtbfbeaghmlkjkaaDoor
open Go
theorem fnExactMissingTerrains_holds : Rows.FnExactMissingTerrainsCardSaid := fnExactMissingTerrains.carded
#print axioms fnExactMissingTerrains_holds
end Go.Proofs.YtbfbeaghmlkjkaaDoor
