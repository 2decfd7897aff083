/- The law FnExactConstants returns true: every constant of the program has the value that the law names. No condition. -/
import Derived.Test.YtpaikmmncnigkaaPFnExactConstantsx1
namespace Go.Proofs.Ytpaikmmncnigkaa.Pure
open Go.RowKit Go.Proofs.Ytpaikmmncnigkaa.PFnExactConstants Go.Proofs.YtpaikmmncnigkaaW.PrintWords Go.Proofs.YtpaikmmncnigkaaW.PrintLast

/-- YOURS: laws_FnExactConstants.f  = some true
What it reaches (each with k first where it has rounds; `.mono`: more rounds tell the same; `.l0`, ..: its loops, with `.mono_l`): laws_FnExactConstants.f -/
theorem FnExactConstants : laws_FnExactConstants.Pure := by
  rfl

end Go.Proofs.Ytpaikmmncnigkaa.Pure
