/- The law FnExactFaultName returns true for every int: the program's FaultName equals the reference's. No condition beyond the argument being an int. -/
import Derived.Test.YtpaikmmncnigkaaPFnExactFaultNamex1
namespace Go.Proofs.Ytpaikmmncnigkaa.Pure
open Go.RowKit Go.Proofs.Ytpaikmmncnigkaa.PFnExactFaultName Go.Proofs.YtpaikmmncnigkaaW.PrintWords Go.Proofs.YtpaikmmncnigkaaW.PrintLast

/-- YOURS: ∀ (a0 : Int), (Lit.int .i64 a0).wf = true → laws_FnExactFaultName.f a0 = some true
What it reaches (each with k first where it has rounds; `.mono`: more rounds tell the same; `.l0`, ..: its loops, with `.mono_l`): spec_l1In.f, spec_FaultName.f, impl_FaultName.f, laws_FnExactFaultName.f -/
theorem FnExactFaultName : laws_FnExactFaultName.Pure := by
  intro a _
  unfold laws_FnExactFaultName.f spec_FaultName.f impl_FaultName.f spec_l1In.f
  by_cases h1 : a = 1
  · subst h1; decide +kernel
  by_cases h2 : a = 2
  · subst h2; decide +kernel
  by_cases h3 : a = 3
  · subst h3; decide +kernel
  by_cases h4 : a = 4
  · subst h4; decide +kernel
  by_cases g : a ≥ 1
  · have g4 : ¬ a ≤ 4 := by omega
    simp [g, g4, h1, h2, h3, h4]
  · simp [g, h1, h2, h3, h4]

end Go.Proofs.Ytpaikmmncnigkaa.Pure
