/- The law FnExactScoreOf returns true for every int: the program's ScoreOf equals the reference's. No condition beyond the argument being an int. -/
import Derived.Test.YtpaikmmncnigkaaPFnExactScoreOfx1
namespace Go.Proofs.Ytpaikmmncnigkaa.Pure
open Go.RowKit Go.Proofs.Ytpaikmmncnigkaa.PFnExactScoreOf Go.Proofs.YtpaikmmncnigkaaW.PrintWords Go.Proofs.YtpaikmmncnigkaaW.PrintLast

/-- YOURS: ∀ (a0 : Int), (Lit.int .i64 a0).wf = true → laws_FnExactScoreOf.f a0 = some true
What it reaches (each with k first where it has rounds; `.mono`: more rounds tell the same; `.l0`, ..: its loops, with `.mono_l`): spec_l1In.f, spec_kScore.f, spec_ScoreOf.f, impl_inRange.f, impl_isResult.f, impl_scoreOf.f, impl_ScoreOf.f, laws_FnExactScoreOf.f -/
theorem FnExactScoreOf : laws_FnExactScoreOf.Pure := by
  intro a _
  unfold laws_FnExactScoreOf.f spec_ScoreOf.f impl_ScoreOf.f spec_l1In.f impl_isResult.f impl_inRange.f
  by_cases g : 0 ≤ a ∧ a ≤ 7
  · have : a = 0 ∨ a = 1 ∨ a = 2 ∨ a = 3 ∨ a = 4 ∨ a = 5 ∨ a = 6 ∨ a = 7 := by omega
    rcases this with h | h | h | h | h | h | h | h <;> subst h <;> decide +kernel
  · by_cases g0 : 0 ≤ a
    · have g7 : ¬ a ≤ 7 := by omega
      simp [g0, g7]
    · simp [g0]

end Go.Proofs.Ytpaikmmncnigkaa.Pure
