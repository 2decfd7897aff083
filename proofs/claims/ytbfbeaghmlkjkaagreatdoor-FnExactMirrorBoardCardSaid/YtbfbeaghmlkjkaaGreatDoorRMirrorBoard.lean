/- Proved: FnExactMirrorBoardCardSaid of the seat YtbfbeaghmlkjkaaGreatDoor: the law MirrorBoard returns true for every input, and each argument reads behind the call as it did; conditions: those of the given row, no other. -/
import Derived.Test.YtbfbeaghmlkjkaaGreatDoorEv3
import Derived.Test.YtbfbeaghmlkjkaaGreatDoorTMirrorBoard
import Derived.Test.YtbfbeaghmlkjkaaGreatDoorLgCNDLILIMINJLJMLLML
import Derived.Test.YtbfbeaghmlkjkaaGreatDoorRows
import Derived.WalkKit
import Derived.ProofKit
import Derived.OpenShut
import Derived.ShutString
import Derived.ChangeOld
import Derived.Below
import Derived.Carry
import Derived.SizedLaws
import Derived.LaidMore
import Derived.Stop.Joined
import Derived.OpenVars
import Derived.SevenTiedAt
import Derived.MakeChecks
import Derived.Test.YtbfbeaghmlkjkaaGreatDoorTie
import Derived.Test.YtbfbeaghmlkjkaaGreatDoorCards
set_option linter.unusedVariables false
set_option linter.unusedSimpArgs false
set_option linter.unusedSectionVars false
namespace Go.Proofs.YtbfbeaghmlkjkaaGreatDoor.fnExactMirrorBoard
open Go Go.Ev Go.Lg Go.Proofs Go.ChangeShapes Go.WideShapes Go.ChangeAt Go.RowKit
set_option linter.unusedVariables false
set_option maxRecDepth 100000
theorem own : ownKnob Tryz.prog.godebug = none := by kernel_rfl
theorem plain (a0 : ((.st (.pair (.st (.pair (.sl (.st (.pair .str (.pair (.sl (.int .i64)) (.pair (.int .i64) (.pair (.int .i64) .bool)))))) (.pair (.sl (.st (.pair .str (.pair (.int .i64) (.pair (.int .i64) (.pair (.int .i64) (.pair .bool (.int .i64)))))))) (.pair (.int .i64) (.pair (.int .i64) (.pair (.int .i64) (.pair (.int .i64) (.int .i64)))))))) (.st (.pair (.int .i64) (.pair (.int .i64) (.pair (.sl (.int .i64)) (.pair (.sl (.int .i64)) (.sl (.int .i64))))))))) : Ty).den) (w0 : Wf ((.st (.pair (.st (.pair (.sl (.st (.pair .str (.pair (.sl (.int .i64)) (.pair (.int .i64) (.pair (.int .i64) .bool)))))) (.pair (.sl (.st (.pair .str (.pair (.int .i64) (.pair (.int .i64) (.pair (.int .i64) (.pair .bool (.int .i64)))))))) (.pair (.int .i64) (.pair (.int .i64) (.pair (.int .i64) (.pair (.int .i64) (.int .i64)))))))) (.st (.pair (.int .i64) (.pair (.int .i64) (.pair (.sl (.int .i64)) (.pair (.sl (.int .i64)) (.sl (.int .i64)))))))))) a0) : ftab (.c (.val (.st (.pair (.st (.pair (.sl (.st (.pair .str (.pair (.sl (.int .i64)) (.pair (.int .i64) (.pair (.int .i64) .bool)))))) (.pair (.sl (.st (.pair .str (.pair (.int .i64) (.pair (.int .i64) (.pair (.int .i64) (.pair .bool (.int .i64)))))))) (.pair (.int .i64) (.pair (.int .i64) (.pair (.int .i64) (.pair (.int .i64) (.int .i64)))))))) (.st (.pair (.int .i64) (.pair (.int .i64) (.pair (.sl (.int .i64)) (.pair (.sl (.int .i64)) (.sl (.int .i64)))))))))) .e) (TieMirrorBoard.F_laws_FnExactMirrorBoard 4194304) [.val _ a0] some = some [⟨.bool, true, true⟩] := by
  refine (ftab_some (ss := (.c (.val (.st (.pair (.st (.pair (.sl (.st (.pair .str (.pair (.sl (.int .i64)) (.pair (.int .i64) (.pair (.int .i64) .bool)))))) (.pair (.sl (.st (.pair .str (.pair (.int .i64) (.pair (.int .i64) (.pair (.int .i64) (.pair .bool (.int .i64)))))))) (.pair (.int .i64) (.pair (.int .i64) (.pair (.int .i64) (.pair (.int .i64) (.int .i64)))))))) (.st (.pair (.int .i64) (.pair (.int .i64) (.pair (.sl (.int .i64)) (.pair (.sl (.int .i64)) (.sl (.int .i64)))))))))) .e)) (x := (a0, ())) rfl some).trans ?_
  show laws_FnExactMirrorBoard 4194304 a0 (fun (r0 : Bool) => some [(⟨.bool, r0, true⟩ : Res)]) = _
  rw [law_FnExactMirrorBoard a0 w0]
theorem door_met (os : Os) (args : Array Value) : laidMetH Tryz.prog Rows.fnExactMirrorBoardRow.laid ((World.doorLaid Tryz.prog 4000 os).forCall (fun _ _ => 0) ⟨#[], args, []⟩).memory :=
  laidMetH_of_parts3 (fuel := 8) (laidMet_of_run' 8 (by kernel_rfl) (by kernel_rfl)) (by kernel_rfl) (by kernel_rfl)
theorem lifted (os : Os) (started : os.Started) (H : Type) (enc : TypeId × Value → H) :
    ReturnsInHanded {} Tryz.checked os 3 .any (fun w args => (Rows.fnExactMirrorBoardSpec.pre enc Tryz.prog Tryz.f3 Rows.fnExactMirrorBoardRow.domain false w args ∧ laidMetH Tryz.prog Rows.fnExactMirrorBoardRow.laid w) ∧ sizedMet enc Tryz.prog Tryz.f3 (OpenSpec.ofChange Rows.fnExactMirrorBoardSpec) false w args) (Rows.fnExactMirrorBoardSpec.post enc Tryz.prog Tryz.f3 false true false false) := by
  refine returnsInHanded_of_change_and (C := Tryz.checked) (X := fun w _ => laidMetH Tryz.prog Rows.fnExactMirrorBoardRow.laid w) (fun _ _ _ hh h => h.of_heap hh) own started (by kernel_rfl) Tryz.func3
    (ChangeSpec.witness_shaped (enc := enc) (C := Tryz.checked) (os := os) (X := fun w _ => laidMetH Tryz.prog Rows.fnExactMirrorBoardRow.laid w) false (World.doorLaid Tryz.prog 4000 os) #[.agg #[.slice none 0 0, .slice none 0 0, .int .i64 0, .int .i64 0, .int .i64 0, .int .i64 0, .int .i64 0, .int .i64 0, .int .i64 0, .slice none 0 0, .slice none 0 0, .slice none 0 0]] 8 rfl (World.shaped_of_RefB (by kernel_rfl) (by kernel_rfl)) (by kernel_rfl) (by kernel_rfl) (by kernel_rfl) (door_met os _)) ?_
  intro W base args ds gs before hval0 hW _ _ hL _
  have hval : ∀ (j : Nat) t v, Tryz.f3.params[j]? = some t → args[j]? = some v → Value.okWide Tryz.prog W .any base t v := hval0
  have hW' := hW
  obtain ⟨p, q, hA0, hV, rfl, hfz, hnd⟩ := hW
  have hA : DataW.TrodAll enc Tryz.prog W 0 (fun _ => true) true Tryz.f3.params.toList args.toList ds p := hA0
  have hlt := DataW.TrodAll.lt hA
  rw [Tryz.params3] at hA hval
  obtain ⟨v0, vs0, d0, ds0, p0, q0, hargs, rfl, rfl, h0, r0⟩ := trodAll_cons hA
  obtain ⟨rfl, rfl, rfl⟩ := trodAll_nil r0
  obtain rfl : args = #[v0] := by cases args; simp_all
  obtain ⟨g0, gs0, u0, rfl, k0⟩ := trodVars_split hV
  obtain ⟨rfl, _⟩ := trodVars_none k0
  obtain ⟨a0, wa0, ra0⟩ := arg_rep (TieMirrorBoard.types.ok 30 _ rfl) (hval 0 30 v0 rfl rfl) h0
  rw [MakeChecks.laidMetH_plain _ _ _ (by kernel_rfl)] at hL
  obtain ⟨hg1, at1⟩ := glob_at (T := (.arr 6 (.st (.pair (.int .i64) (.int .i64))))) (x := impl_directions) (d := Rows.laid_loop_example_g00886_impl_directions) (i := 0) (n := "loop.example/g00886/impl.directions") (g := 1) (TieMirrorBoard.types.ok 145 _ rfl) rfl hL (by kernel_rfl) (by kernel_rfl) rfl rfl
  refine (law_call (TieMirrorBoard.s_laws_FnExactMirrorBoard 4194304) (args := [.val _ a0]) (vals := [v0]) (W := W) (G := fun k => inPs (p0 ++ ([] : List MemPlace)) k ∨ k = 1) ?_ ⟨v0, [], rfl, ValRep_mono (fun k hk => .inl (by obtain ⟨x, hx, e⟩ := hk; exact ⟨x, by simp [hx], e⟩)) (fun _ _ => rfl) ra0, rfl⟩ ?_ (plain a0 wa0)).mono fun e W' ⟨he, bel⟩ => ?_
  · rintro k (⟨x, hx, rfl⟩ | rfl)
    · exact hlt x (by simpa using hx)
    · exact hg1
  · intro g
    unfold TieMirrorBoard.glob
    cases hb1 : Nat.beq g 1 with
    | true =>
      have hgb := Nat.eq_of_beq_eq_true hb1
      subst hgb
      exact ⟨_, rfl, at1 _ (.inr rfl)⟩
    | false =>
      exact trivial
  subst he
  exact ⟨_, rfl, _, _, _, [], _, _, hW', trodAll_mk1 (shut_bool Tryz.underlying4 _), (trodAll_cons_mk (Below.trod (by kernel_rfl) (by kernel_rfl) (of_decide_eq_true (by kernel_rfl)) h0 bel (fun x hx => hlt x (by simp [hx]))) trodAll_mk0), Below.trodVars (by kernel_rfl) bel (by kernel_rfl) hV, bel.frame _, fun h => by cases h⟩
theorem over : Rows.fnExactMirrorBoardRow.holds Tryz.pinned (OpenSpec.ofChange Rows.fnExactMirrorBoardSpec) :=
  OpenClaim.holds_of_wide 3 Tryz.f3 rfl rfl rfl rfl rfl rfl rfl ⟨rfl, rfl, rfl, rfl, rfl⟩ rfl rfl rfl rfl rfl (by kernel_rfl) Tryz.func3 (by kernel_rfl)
    (of_decide_eq_true (by kernel_rfl)) (by unfold Func.isWrapper; first | (rw [if_pos (by decide +kernel)]; kernel_rfl) | (rw [if_neg (by decide +kernel)]; exact ⟨rfl, rfl⟩))
    (fun os started H enc _ => lifted os started H enc)
theorem carded : Rows.FnExactMirrorBoardCardSaid :=
  Claim7.holds_tied_plain_at .later [] [.data] true (true, "41f441fa10714257f504592b8a05cbf3e291b50f16035b2a50d3ab71126140ba") false
    over (fun _ h => by cases h) (by kernel_rfl) (fun _ h => by cases h) fnExactMirrorBoard_row_tie rfl ⟨rfl, rfl⟩ (by kernel_rfl) rfl
    (fun f fn hf hfn => by
      obtain rfl : f = 3 := Option.some.inj ((show Tryz.prog.funcNamed "loop.example/g00886/laws.FnExactMirrorBoard" = some 3 by kernel_rfl).symm.trans hf) |>.symm
      obtain rfl : fn = Tryz.f3 := (Option.some.inj (Tryz.func3.symm.trans hfn)).symm
      exact ⟨by kernel_rfl, fun j t ht => by
        rw [Tryz.params3] at ht
        have hm : t ∈ [30] := by simpa using Array.mem_of_getElem? ht
        have hall : ([30].all fun u => !Tryz.prog.wantsStandIn u) = true := by kernel_rfl
        exact (show Tryz.prog.wantsStandIn t = false by simpa using List.all_eq_true.1 hall t hm)⟩)
    (by kernel_rfl)
end Go.Proofs.YtbfbeaghmlkjkaaGreatDoor.fnExactMirrorBoard
namespace Go.Proofs.YtbfbeaghmlkjkaaGreatDoor
open Go
theorem fnExactMirrorBoard_holds : Rows.FnExactMirrorBoardCardSaid := fnExactMirrorBoard.carded
#print axioms fnExactMirrorBoard_holds
end Go.Proofs.YtbfbeaghmlkjkaaGreatDoor
