import Derived.Test.YtpaikmmncnigkaaEv2
import Derived.Test.YtpaikmmncnigkaaLg0ATAL
import Derived.KernelRfl
import Derived.Eval
import Derived.Test.YtpaikmmncnigkaaProg
import Derived.Test.YtpaikmmncnigkaaChecked
set_option linter.unusedVariables false
set_option linter.unusedSimpArgs false
set_option linter.unusedSectionVars false
set_option linter.unusedVariables false
set_option maxRecDepth 100000
namespace Go.Proofs.Ytpaikmmncnigkaa.TieDistanceOf
open Go Go.Ev Go.Lg Go.Proofs
def tys : Nat → Option Ty := lookT [(3, (.int .i64)), (4, .bool), (24, (.st (.pair (.int .i64) (.int .i64)))), (26, (.st (.pair (.int .i64) (.int .i64))))]
def glob : Nat → AV := fun g => .bot
theorem types : Types Try.prog tys := types_of (by kernel_rfl)
theorem mixed : Try.prog.follows .mixedOrders = true := Checked.mixed Try.checked
theorem e0 : SoundE Try.prog glob tnil ∧ NatE tnil := ⟨tnil_sound, tnil_nat⟩
/-- laws.toHex -/
def cx_laws_toHex : Cx := { N := 11, G := glob, C := tys, ad := fun d => false, wk := false }
def F_laws_toHex (k : Nat) : FArg (.c (.val (.st (.pair (.int .i64) (.int .i64)))) .e) := fun x K => laws_toHex x.1 (fun (r0 : Int × Int) => K [⟨(.st (.pair (.int .i64) (.int .i64))), r0, true⟩])
theorem s_laws_toHex (k : Nat) : SoundF Try.prog glob 14 (ftab (.c (.val (.st (.pair (.int .i64) (.int .i64)))) .e) (F_laws_toHex k)) :=
  fun_ok (cx := cx_laws_toHex) (by kernel_rfl) ⟨types, (e0).1, (e0).2, mixed, rfl⟩ Try.func14 rfl (LoopsOK.nil) [] (by kernel_rfl) (fun x K => by kernel_rfl)
def E_laws_toHex (k : Nat) : Tbl := tcons 14 (ftab (.c (.val (.st (.pair (.int .i64) (.int .i64)))) .e) (F_laws_toHex k)) (tnil)
theorem E_laws_toHex_ok (k : Nat) : SoundE Try.prog glob (E_laws_toHex k) ∧ NatE (E_laws_toHex k) := ⟨tcons_sound (s_laws_toHex k) (e0).1, tcons_nat (s_laws_toHex k) (e0).2⟩
/-- spec.l1In -/
def cx_spec_l1In : Cx := { N := 15, G := glob, C := tys, ad := fun d => false, wk := false }
def F_spec_l1In (k : Nat) : FArg (.c (.val (.int .i64)) (.c (.val (.int .i64)) (.c (.val (.int .i64)) .e))) := fun x K => spec_l1In x.1 x.2.1 x.2.2.1 (fun (r0 : Bool) => K [⟨.bool, r0, true⟩])
theorem s_spec_l1In (k : Nat) : SoundF Try.prog glob 43 (ftab (.c (.val (.int .i64)) (.c (.val (.int .i64)) (.c (.val (.int .i64)) .e))) (F_spec_l1In k)) :=
  fun_ok (cx := cx_spec_l1In) (by kernel_rfl) ⟨types, (E_laws_toHex_ok k).1, (E_laws_toHex_ok k).2, mixed, rfl⟩ Try.func43 rfl (LoopsOK.nil) [] (by kernel_rfl) (fun x K => by kernel_rfl)
def E_spec_l1In (k : Nat) : Tbl := tcons 43 (ftab (.c (.val (.int .i64)) (.c (.val (.int .i64)) (.c (.val (.int .i64)) .e))) (F_spec_l1In k)) (E_laws_toHex k)
theorem E_spec_l1In_ok (k : Nat) : SoundE Try.prog glob (E_spec_l1In k) ∧ NatE (E_spec_l1In k) := ⟨tcons_sound (s_spec_l1In k) (E_laws_toHex_ok k).1, tcons_nat (s_spec_l1In k) (E_laws_toHex_ok k).2⟩
/-- spec.hGood -/
def cx_spec_hGood : Cx := { N := 11, G := glob, C := tys, ad := fun d => false, wk := false }
def F_spec_hGood (k : Nat) : FArg (.c (.val (.st (.pair (.int .i64) (.int .i64)))) .e) := fun x K => spec_hGood x.1 (fun (r0 : Bool) => K [⟨.bool, r0, true⟩])
theorem s_spec_hGood (k : Nat) : SoundF Try.prog glob 41 (ftab (.c (.val (.st (.pair (.int .i64) (.int .i64)))) .e) (F_spec_hGood k)) :=
  fun_ok (cx := cx_spec_hGood) (by kernel_rfl) ⟨types, (E_spec_l1In_ok k).1, (E_spec_l1In_ok k).2, mixed, rfl⟩ Try.func41 rfl (LoopsOK.nil) [] (by kernel_rfl) (fun x K => by kernel_rfl)
def E_spec_hGood (k : Nat) : Tbl := tcons 41 (ftab (.c (.val (.st (.pair (.int .i64) (.int .i64)))) .e) (F_spec_hGood k)) (E_spec_l1In k)
theorem E_spec_hGood_ok (k : Nat) : SoundE Try.prog glob (E_spec_hGood k) ∧ NatE (E_spec_hGood k) := ⟨tcons_sound (s_spec_hGood k) (E_spec_l1In_ok k).1, tcons_nat (s_spec_hGood k) (E_spec_l1In_ok k).2⟩
/-- spec.l1Most -/
def cx_spec_l1Most : Cx := { N := 10, G := glob, C := tys, ad := fun d => false, wk := false }
def F_spec_l1Most (k : Nat) : FArg (.c (.val (.int .i64)) (.c (.val (.int .i64)) .e)) := fun x K => spec_l1Most x.1 x.2.1 (fun (r0 : Int) => K [⟨(.int .i64), r0, true⟩])
theorem s_spec_l1Most (k : Nat) : SoundF Try.prog glob 60 (ftab (.c (.val (.int .i64)) (.c (.val (.int .i64)) .e)) (F_spec_l1Most k)) :=
  fun_ok (cx := cx_spec_l1Most) (by kernel_rfl) ⟨types, (E_spec_hGood_ok k).1, (E_spec_hGood_ok k).2, mixed, rfl⟩ Try.func60 rfl (LoopsOK.nil) [] (by kernel_rfl) (fun x K => by kernel_rfl)
def E_spec_l1Most (k : Nat) : Tbl := tcons 60 (ftab (.c (.val (.int .i64)) (.c (.val (.int .i64)) .e)) (F_spec_l1Most k)) (E_spec_hGood k)
theorem E_spec_l1Most_ok (k : Nat) : SoundE Try.prog glob (E_spec_l1Most k) ∧ NatE (E_spec_l1Most k) := ⟨tcons_sound (s_spec_l1Most k) (E_spec_hGood_ok k).1, tcons_nat (s_spec_l1Most k) (E_spec_hGood_ok k).2⟩
/-- spec.l1Abs -/
def cx_spec_l1Abs : Cx := { N := 7, G := glob, C := tys, ad := fun d => false, wk := false }
def F_spec_l1Abs (k : Nat) : FArg (.c (.val (.int .i64)) .e) := fun x K => spec_l1Abs x.1 (fun (r0 : Int) => K [⟨(.int .i64), r0, true⟩])
theorem s_spec_l1Abs (k : Nat) : SoundF Try.prog glob 56 (ftab (.c (.val (.int .i64)) .e) (F_spec_l1Abs k)) :=
  fun_ok (cx := cx_spec_l1Abs) (by kernel_rfl) ⟨types, (E_spec_l1Most_ok k).1, (E_spec_l1Most_ok k).2, mixed, rfl⟩ Try.func56 rfl (LoopsOK.nil) [] (by kernel_rfl) (fun x K => by kernel_rfl)
def E_spec_l1Abs (k : Nat) : Tbl := tcons 56 (ftab (.c (.val (.int .i64)) .e) (F_spec_l1Abs k)) (E_spec_l1Most k)
theorem E_spec_l1Abs_ok (k : Nat) : SoundE Try.prog glob (E_spec_l1Abs k) ∧ NatE (E_spec_l1Abs k) := ⟨tcons_sound (s_spec_l1Abs k) (E_spec_l1Most_ok k).1, tcons_nat (s_spec_l1Abs k) (E_spec_l1Most_ok k).2⟩
/-- spec.hDistance -/
def cx_spec_hDistance : Cx := { N := 28, G := glob, C := tys, ad := fun d => false, wk := false }
def F_spec_hDistance (k : Nat) : FArg (.c (.val (.st (.pair (.int .i64) (.int .i64)))) (.c (.val (.st (.pair (.int .i64) (.int .i64)))) .e)) := fun x K => spec_hDistance x.1 x.2.1 (fun (r0 : Int) => K [⟨(.int .i64), r0, true⟩])
theorem s_spec_hDistance (k : Nat) : SoundF Try.prog glob 49 (ftab (.c (.val (.st (.pair (.int .i64) (.int .i64)))) (.c (.val (.st (.pair (.int .i64) (.int .i64)))) .e)) (F_spec_hDistance k)) :=
  fun_ok (cx := cx_spec_hDistance) (by kernel_rfl) ⟨types, (E_spec_l1Abs_ok k).1, (E_spec_l1Abs_ok k).2, mixed, rfl⟩ Try.func49 rfl (LoopsOK.nil) [] (by kernel_rfl) (fun x K => by kernel_rfl)
def E_spec_hDistance (k : Nat) : Tbl := tcons 49 (ftab (.c (.val (.st (.pair (.int .i64) (.int .i64)))) (.c (.val (.st (.pair (.int .i64) (.int .i64)))) .e)) (F_spec_hDistance k)) (E_spec_l1Abs k)
theorem E_spec_hDistance_ok (k : Nat) : SoundE Try.prog glob (E_spec_hDistance k) ∧ NatE (E_spec_hDistance k) := ⟨tcons_sound (s_spec_hDistance k) (E_spec_l1Abs_ok k).1, tcons_nat (s_spec_hDistance k) (E_spec_l1Abs_ok k).2⟩
/-- spec.DistanceOf -/
def cx_spec_DistanceOf : Cx := { N := 17, G := glob, C := tys, ad := fun d => false, wk := false }
def F_spec_DistanceOf (k : Nat) : FArg (.c (.val (.st (.pair (.int .i64) (.int .i64)))) (.c (.val (.st (.pair (.int .i64) (.int .i64)))) .e)) := fun x K => spec_DistanceOf x.1 x.2.1 (fun (r0 : Int) (r1 : Bool) => K [⟨(.int .i64), r0, true⟩, ⟨.bool, r1, true⟩])
theorem s_spec_DistanceOf (k : Nat) : SoundF Try.prog glob 23 (ftab (.c (.val (.st (.pair (.int .i64) (.int .i64)))) (.c (.val (.st (.pair (.int .i64) (.int .i64)))) .e)) (F_spec_DistanceOf k)) :=
  fun_ok (cx := cx_spec_DistanceOf) (by kernel_rfl) ⟨types, (E_spec_hDistance_ok k).1, (E_spec_hDistance_ok k).2, mixed, rfl⟩ Try.func23 rfl (LoopsOK.nil) [] (by kernel_rfl) (fun x K => by kernel_rfl)
def E_spec_DistanceOf (k : Nat) : Tbl := tcons 23 (ftab (.c (.val (.st (.pair (.int .i64) (.int .i64)))) (.c (.val (.st (.pair (.int .i64) (.int .i64)))) .e)) (F_spec_DistanceOf k)) (E_spec_hDistance k)
theorem E_spec_DistanceOf_ok (k : Nat) : SoundE Try.prog glob (E_spec_DistanceOf k) ∧ NatE (E_spec_DistanceOf k) := ⟨tcons_sound (s_spec_DistanceOf k) (E_spec_hDistance_ok k).1, tcons_nat (s_spec_DistanceOf k) (E_spec_hDistance_ok k).2⟩
/-- impl.inRange -/
def cx_impl_inRange : Cx := { N := 15, G := glob, C := tys, ad := fun d => false, wk := false }
def F_impl_inRange (k : Nat) : FArg (.c (.val (.int .i64)) (.c (.val (.int .i64)) (.c (.val (.int .i64)) .e))) := fun x K => impl_inRange x.1 x.2.1 x.2.2.1 (fun (r0 : Bool) => K [⟨.bool, r0, true⟩])
theorem s_impl_inRange (k : Nat) : SoundF Try.prog glob 42 (ftab (.c (.val (.int .i64)) (.c (.val (.int .i64)) (.c (.val (.int .i64)) .e))) (F_impl_inRange k)) :=
  fun_ok (cx := cx_impl_inRange) (by kernel_rfl) ⟨types, (E_spec_DistanceOf_ok k).1, (E_spec_DistanceOf_ok k).2, mixed, rfl⟩ Try.func42 rfl (LoopsOK.nil) [] (by kernel_rfl) (fun x K => by kernel_rfl)
def E_impl_inRange (k : Nat) : Tbl := tcons 42 (ftab (.c (.val (.int .i64)) (.c (.val (.int .i64)) (.c (.val (.int .i64)) .e))) (F_impl_inRange k)) (E_spec_DistanceOf k)
theorem E_impl_inRange_ok (k : Nat) : SoundE Try.prog glob (E_impl_inRange k) ∧ NatE (E_impl_inRange k) := ⟨tcons_sound (s_impl_inRange k) (E_spec_DistanceOf_ok k).1, tcons_nat (s_impl_inRange k) (E_spec_DistanceOf_ok k).2⟩
/-- impl.IsHex -/
def cx_impl_IsHex : Cx := { N := 11, G := glob, C := tys, ad := fun d => false, wk := false }
def F_impl_IsHex (k : Nat) : FArg (.c (.val (.st (.pair (.int .i64) (.int .i64)))) .e) := fun x K => impl_IsHex x.1 (fun (r0 : Bool) => K [⟨.bool, r0, true⟩])
theorem s_impl_IsHex (k : Nat) : SoundF Try.prog glob 15 (ftab (.c (.val (.st (.pair (.int .i64) (.int .i64)))) .e) (F_impl_IsHex k)) :=
  fun_ok (cx := cx_impl_IsHex) (by kernel_rfl) ⟨types, (E_impl_inRange_ok k).1, (E_impl_inRange_ok k).2, mixed, rfl⟩ Try.func15 rfl (LoopsOK.nil) [] (by kernel_rfl) (fun x K => by kernel_rfl)
def E_impl_IsHex (k : Nat) : Tbl := tcons 15 (ftab (.c (.val (.st (.pair (.int .i64) (.int .i64)))) .e) (F_impl_IsHex k)) (E_impl_inRange k)
theorem E_impl_IsHex_ok (k : Nat) : SoundE Try.prog glob (E_impl_IsHex k) ∧ NatE (E_impl_IsHex k) := ⟨tcons_sound (s_impl_IsHex k) (E_impl_inRange_ok k).1, tcons_nat (s_impl_IsHex k) (E_impl_inRange_ok k).2⟩
/-- impl.absOf -/
def cx_impl_absOf : Cx := { N := 8, G := glob, C := tys, ad := fun d => false, wk := false }
def F_impl_absOf (k : Nat) : FArg (.c (.val (.int .i64)) .e) := fun x K => impl_absOf x.1 (fun (r0 : Int) => K [⟨(.int .i64), r0, true⟩])
theorem s_impl_absOf (k : Nat) : SoundF Try.prog glob 57 (ftab (.c (.val (.int .i64)) .e) (F_impl_absOf k)) :=
  fun_ok (cx := cx_impl_absOf) (by kernel_rfl) ⟨types, (E_impl_IsHex_ok k).1, (E_impl_IsHex_ok k).2, mixed, rfl⟩ Try.func57 rfl (LoopsOK.nil) [] (by kernel_rfl) (fun x K => by kernel_rfl)
def E_impl_absOf (k : Nat) : Tbl := tcons 57 (ftab (.c (.val (.int .i64)) .e) (F_impl_absOf k)) (E_impl_IsHex k)
theorem E_impl_absOf_ok (k : Nat) : SoundE Try.prog glob (E_impl_absOf k) ∧ NatE (E_impl_absOf k) := ⟨tcons_sound (s_impl_absOf k) (E_impl_IsHex_ok k).1, tcons_nat (s_impl_absOf k) (E_impl_IsHex_ok k).2⟩
/-- impl.distance -/
def cx_impl_distance : Cx := { N := 28, G := glob, C := tys, ad := fun d => false, wk := false }
def F_impl_distance (k : Nat) : FArg (.c (.val (.st (.pair (.int .i64) (.int .i64)))) (.c (.val (.st (.pair (.int .i64) (.int .i64)))) .e)) := fun x K => impl_distance x.1 x.2.1 (fun (r0 : Int) => K [⟨(.int .i64), r0, true⟩])
theorem s_impl_distance (k : Nat) : SoundF Try.prog glob 50 (ftab (.c (.val (.st (.pair (.int .i64) (.int .i64)))) (.c (.val (.st (.pair (.int .i64) (.int .i64)))) .e)) (F_impl_distance k)) :=
  fun_ok (cx := cx_impl_distance) (by kernel_rfl) ⟨types, (E_impl_absOf_ok k).1, (E_impl_absOf_ok k).2, mixed, rfl⟩ Try.func50 rfl (LoopsOK.nil) [] (by kernel_rfl) (fun x K => by kernel_rfl)
def E_impl_distance (k : Nat) : Tbl := tcons 50 (ftab (.c (.val (.st (.pair (.int .i64) (.int .i64)))) (.c (.val (.st (.pair (.int .i64) (.int .i64)))) .e)) (F_impl_distance k)) (E_impl_absOf k)
theorem E_impl_distance_ok (k : Nat) : SoundE Try.prog glob (E_impl_distance k) ∧ NatE (E_impl_distance k) := ⟨tcons_sound (s_impl_distance k) (E_impl_absOf_ok k).1, tcons_nat (s_impl_distance k) (E_impl_absOf_ok k).2⟩
/-- impl.DistanceOf -/
def cx_impl_DistanceOf : Cx := { N := 17, G := glob, C := tys, ad := fun d => false, wk := false }
def F_impl_DistanceOf (k : Nat) : FArg (.c (.val (.st (.pair (.int .i64) (.int .i64)))) (.c (.val (.st (.pair (.int .i64) (.int .i64)))) .e)) := fun x K => impl_DistanceOf x.1 x.2.1 (fun (r0 : Int) (r1 : Bool) => K [⟨(.int .i64), r0, true⟩, ⟨.bool, r1, true⟩])
theorem s_impl_DistanceOf (k : Nat) : SoundF Try.prog glob 24 (ftab (.c (.val (.st (.pair (.int .i64) (.int .i64)))) (.c (.val (.st (.pair (.int .i64) (.int .i64)))) .e)) (F_impl_DistanceOf k)) :=
  fun_ok (cx := cx_impl_DistanceOf) (by kernel_rfl) ⟨types, (E_impl_distance_ok k).1, (E_impl_distance_ok k).2, mixed, rfl⟩ Try.func24 rfl (LoopsOK.nil) [] (by kernel_rfl) (fun x K => by kernel_rfl)
def E_impl_DistanceOf (k : Nat) : Tbl := tcons 24 (ftab (.c (.val (.st (.pair (.int .i64) (.int .i64)))) (.c (.val (.st (.pair (.int .i64) (.int .i64)))) .e)) (F_impl_DistanceOf k)) (E_impl_distance k)
theorem E_impl_DistanceOf_ok (k : Nat) : SoundE Try.prog glob (E_impl_DistanceOf k) ∧ NatE (E_impl_DistanceOf k) := ⟨tcons_sound (s_impl_DistanceOf k) (E_impl_distance_ok k).1, tcons_nat (s_impl_DistanceOf k) (E_impl_distance_ok k).2⟩
/-- laws.FnExactDistanceOf -/
def cx_laws_FnExactDistanceOf : Cx := { N := 33, G := glob, C := tys, ad := fun d => false, wk := false }
def F_laws_FnExactDistanceOf (k : Nat) : FArg (.c (.val (.st (.pair (.int .i64) (.int .i64)))) (.c (.val (.st (.pair (.int .i64) (.int .i64)))) .e)) := fun x K => laws_FnExactDistanceOf x.1 x.2.1 (fun (r0 : Bool) => K [⟨.bool, r0, true⟩])
theorem s_laws_FnExactDistanceOf (k : Nat) : SoundF Try.prog glob 8 (ftab (.c (.val (.st (.pair (.int .i64) (.int .i64)))) (.c (.val (.st (.pair (.int .i64) (.int .i64)))) .e)) (F_laws_FnExactDistanceOf k)) :=
  fun_ok (cx := cx_laws_FnExactDistanceOf) (by kernel_rfl) ⟨types, (E_impl_DistanceOf_ok k).1, (E_impl_DistanceOf_ok k).2, mixed, rfl⟩ Try.func8 rfl (LoopsOK.nil) [] (by kernel_rfl) (fun x K => by kernel_rfl)
def E_laws_FnExactDistanceOf (k : Nat) : Tbl := tcons 8 (ftab (.c (.val (.st (.pair (.int .i64) (.int .i64)))) (.c (.val (.st (.pair (.int .i64) (.int .i64)))) .e)) (F_laws_FnExactDistanceOf k)) (E_impl_DistanceOf k)
theorem E_laws_FnExactDistanceOf_ok (k : Nat) : SoundE Try.prog glob (E_laws_FnExactDistanceOf k) ∧ NatE (E_laws_FnExactDistanceOf k) := ⟨tcons_sound (s_laws_FnExactDistanceOf k) (E_impl_DistanceOf_ok k).1, tcons_nat (s_laws_FnExactDistanceOf k) (E_impl_DistanceOf_ok k).2⟩
end Go.Proofs.Ytpaikmmncnigkaa.TieDistanceOf
