import Derived.Test.YtpaikmmncnigkaaDoorEv2
import Derived.Test.YtpaikmmncnigkaaDoorLg0ATAL
import Derived.KernelRfl
import Derived.Eval
import Derived.Test.YtpaikmmncnigkaaDoorProg
import Derived.Test.YtpaikmmncnigkaaDoorChecked
set_option linter.unusedVariables false
set_option linter.unusedSimpArgs false
set_option linter.unusedSectionVars false
set_option linter.unusedVariables false
set_option maxRecDepth 100000
namespace Go.Proofs.YtpaikmmncnigkaaDoor.TieNeighbourOf
open Go Go.Ev Go.Lg Go.Proofs
def tys : Nat → Option Ty := lookT [(3, (.int .i64)), (4, .bool), (23, (.st (.pair (.int .i64) (.int .i64)))), (26, (.st (.pair (.int .i64) (.int .i64)))), (38, (.sl (.int .i64))), (46, (.arr 6 (.st (.pair (.int .i64) (.int .i64)))))]
def glob : Nat → AV := fun g => bif Nat.beq g 0 then .pval (.arr 6 (.st (.pair (.int .i64) (.int .i64)))) impl_directions else .bot
theorem types : Types Tryd.prog tys := types_of (by kernel_rfl)
theorem mixed : Tryd.prog.follows .mixedOrders = true := Checked.mixed Tryd.checked
theorem e0 : SoundE Tryd.prog glob tnil ∧ NatE tnil := ⟨tnil_sound, tnil_nat⟩
/-- laws.toHex -/
def cx_laws_toHex : Cx := { N := 11, G := glob, C := tys, ad := fun d => false, wk := false }
def F_laws_toHex (k : Nat) : FArg (.c (.val (.st (.pair (.int .i64) (.int .i64)))) .e) := fun x K => laws_toHex x.1 (fun (r0 : Int × Int) => K [⟨(.st (.pair (.int .i64) (.int .i64))), r0, true⟩])
theorem s_laws_toHex (k : Nat) : SoundF Tryd.prog glob 8 (ftab (.c (.val (.st (.pair (.int .i64) (.int .i64)))) .e) (F_laws_toHex k)) :=
  fun_ok (cx := cx_laws_toHex) (by kernel_rfl) ⟨types, (e0).1, (e0).2, mixed, rfl⟩ Tryd.func8 rfl (LoopsOK.nil) [] (by kernel_rfl) (fun x K => by kernel_rfl)
def E_laws_toHex (k : Nat) : Tbl := tcons 8 (ftab (.c (.val (.st (.pair (.int .i64) (.int .i64)))) .e) (F_laws_toHex k)) (tnil)
theorem E_laws_toHex_ok (k : Nat) : SoundE Tryd.prog glob (E_laws_toHex k) ∧ NatE (E_laws_toHex k) := ⟨tcons_sound (s_laws_toHex k) (e0).1, tcons_nat (s_laws_toHex k) (e0).2⟩
/-- spec.l1In -/
def cx_spec_l1In : Cx := { N := 15, G := glob, C := tys, ad := fun d => false, wk := false }
def F_spec_l1In (k : Nat) : FArg (.c (.val (.int .i64)) (.c (.val (.int .i64)) (.c (.val (.int .i64)) .e))) := fun x K => spec_l1In x.1 x.2.1 x.2.2.1 (fun (r0 : Bool) => K [⟨.bool, r0, true⟩])
theorem s_spec_l1In (k : Nat) : SoundF Tryd.prog glob 27 (ftab (.c (.val (.int .i64)) (.c (.val (.int .i64)) (.c (.val (.int .i64)) .e))) (F_spec_l1In k)) :=
  fun_ok (cx := cx_spec_l1In) (by kernel_rfl) ⟨types, (E_laws_toHex_ok k).1, (E_laws_toHex_ok k).2, mixed, rfl⟩ Tryd.func27 rfl (LoopsOK.nil) [] (by kernel_rfl) (fun x K => by kernel_rfl)
def E_spec_l1In (k : Nat) : Tbl := tcons 27 (ftab (.c (.val (.int .i64)) (.c (.val (.int .i64)) (.c (.val (.int .i64)) .e))) (F_spec_l1In k)) (E_laws_toHex k)
theorem E_spec_l1In_ok (k : Nat) : SoundE Tryd.prog glob (E_spec_l1In k) ∧ NatE (E_spec_l1In k) := ⟨tcons_sound (s_spec_l1In k) (E_laws_toHex_ok k).1, tcons_nat (s_spec_l1In k) (E_laws_toHex_ok k).2⟩
/-- spec.hGood -/
def cx_spec_hGood : Cx := { N := 11, G := glob, C := tys, ad := fun d => false, wk := false }
def F_spec_hGood (k : Nat) : FArg (.c (.val (.st (.pair (.int .i64) (.int .i64)))) .e) := fun x K => spec_hGood x.1 (fun (r0 : Bool) => K [⟨.bool, r0, true⟩])
theorem s_spec_hGood (k : Nat) : SoundF Tryd.prog glob 23 (ftab (.c (.val (.st (.pair (.int .i64) (.int .i64)))) .e) (F_spec_hGood k)) :=
  fun_ok (cx := cx_spec_hGood) (by kernel_rfl) ⟨types, (E_spec_l1In_ok k).1, (E_spec_l1In_ok k).2, mixed, rfl⟩ Tryd.func23 rfl (LoopsOK.nil) [] (by kernel_rfl) (fun x K => by kernel_rfl)
def E_spec_hGood (k : Nat) : Tbl := tcons 23 (ftab (.c (.val (.st (.pair (.int .i64) (.int .i64)))) .e) (F_spec_hGood k)) (E_spec_l1In k)
theorem E_spec_hGood_ok (k : Nat) : SoundE Tryd.prog glob (E_spec_hGood k) ∧ NatE (E_spec_hGood k) := ⟨tcons_sound (s_spec_hGood k) (E_spec_l1In_ok k).1, tcons_nat (s_spec_hGood k) (E_spec_l1In_ok k).2⟩
/-- spec.hStep -/
def cx_spec_hStep : Cx := { N := 20, G := glob, C := tys, ad := fun d => false, wk := false }
def F_spec_hStep (k : Nat) : FArg (.c (.val (.st (.pair (.int .i64) (.int .i64)))) (.c (.val (.int .i64)) .e)) := fun x K => spec_hStep x.1 x.2.1 (fun (r0 : Int × Int) => K [⟨(.st (.pair (.int .i64) (.int .i64))), r0, true⟩])
theorem s_spec_hStep (k : Nat) : SoundF Tryd.prog glob 24 (ftab (.c (.val (.st (.pair (.int .i64) (.int .i64)))) (.c (.val (.int .i64)) .e)) (F_spec_hStep k)) :=
  fun_ok (cx := cx_spec_hStep) (by kernel_rfl) ⟨types, (E_spec_hGood_ok k).1, (E_spec_hGood_ok k).2, mixed, rfl⟩ Tryd.func24 rfl (LoopsOK.nil) [] (by kernel_rfl) (fun x K => by kernel_rfl)
def E_spec_hStep (k : Nat) : Tbl := tcons 24 (ftab (.c (.val (.st (.pair (.int .i64) (.int .i64)))) (.c (.val (.int .i64)) .e)) (F_spec_hStep k)) (E_spec_hGood k)
theorem E_spec_hStep_ok (k : Nat) : SoundE Tryd.prog glob (E_spec_hStep k) ∧ NatE (E_spec_hStep k) := ⟨tcons_sound (s_spec_hStep k) (E_spec_hGood_ok k).1, tcons_nat (s_spec_hStep k) (E_spec_hGood_ok k).2⟩
/-- spec.hIf -/
def cx_spec_hIf : Cx := { N := 9, G := glob, C := tys, ad := fun d => false, wk := false }
def F_spec_hIf (k : Nat) : FArg (.c (.val (.st (.pair (.int .i64) (.int .i64)))) .e) := fun x K => spec_hIf x.1 (fun (r0 : Int × Int) (r1 : Bool) => K [⟨(.st (.pair (.int .i64) (.int .i64))), r0, true⟩, ⟨.bool, r1, true⟩])
theorem s_spec_hIf (k : Nat) : SoundF Tryd.prog glob 28 (ftab (.c (.val (.st (.pair (.int .i64) (.int .i64)))) .e) (F_spec_hIf k)) :=
  fun_ok (cx := cx_spec_hIf) (by kernel_rfl) ⟨types, (E_spec_hStep_ok k).1, (E_spec_hStep_ok k).2, mixed, rfl⟩ Tryd.func28 rfl (LoopsOK.nil) [] (by kernel_rfl) (fun x K => by kernel_rfl)
def E_spec_hIf (k : Nat) : Tbl := tcons 28 (ftab (.c (.val (.st (.pair (.int .i64) (.int .i64)))) .e) (F_spec_hIf k)) (E_spec_hStep k)
theorem E_spec_hIf_ok (k : Nat) : SoundE Tryd.prog glob (E_spec_hIf k) ∧ NatE (E_spec_hIf k) := ⟨tcons_sound (s_spec_hIf k) (E_spec_hStep_ok k).1, tcons_nat (s_spec_hIf k) (E_spec_hStep_ok k).2⟩
/-- spec.NeighbourOf -/
def cx_spec_NeighbourOf : Cx := { N := 21, G := glob, C := tys, ad := fun d => false, wk := false }
def F_spec_NeighbourOf (k : Nat) : FArg (.c (.val (.st (.pair (.int .i64) (.int .i64)))) (.c (.val (.int .i64)) .e)) := fun x K => spec_NeighbourOf x.1 x.2.1 (fun (r0 : Int × Int) (r1 : Bool) => K [⟨(.st (.pair (.int .i64) (.int .i64))), r0, true⟩, ⟨.bool, r1, true⟩])
theorem s_spec_NeighbourOf (k : Nat) : SoundF Tryd.prog glob 10 (ftab (.c (.val (.st (.pair (.int .i64) (.int .i64)))) (.c (.val (.int .i64)) .e)) (F_spec_NeighbourOf k)) :=
  fun_ok (cx := cx_spec_NeighbourOf) (by kernel_rfl) ⟨types, (E_spec_hIf_ok k).1, (E_spec_hIf_ok k).2, mixed, rfl⟩ Tryd.func10 rfl (LoopsOK.nil) [] (by kernel_rfl) (fun x K => by kernel_rfl)
def E_spec_NeighbourOf (k : Nat) : Tbl := tcons 10 (ftab (.c (.val (.st (.pair (.int .i64) (.int .i64)))) (.c (.val (.int .i64)) .e)) (F_spec_NeighbourOf k)) (E_spec_hIf k)
theorem E_spec_NeighbourOf_ok (k : Nat) : SoundE Tryd.prog glob (E_spec_NeighbourOf k) ∧ NatE (E_spec_NeighbourOf k) := ⟨tcons_sound (s_spec_NeighbourOf k) (E_spec_hIf_ok k).1, tcons_nat (s_spec_NeighbourOf k) (E_spec_hIf_ok k).2⟩
/-- impl.inRange -/
def cx_impl_inRange : Cx := { N := 15, G := glob, C := tys, ad := fun d => false, wk := false }
def F_impl_inRange (k : Nat) : FArg (.c (.val (.int .i64)) (.c (.val (.int .i64)) (.c (.val (.int .i64)) .e))) := fun x K => impl_inRange x.1 x.2.1 x.2.2.1 (fun (r0 : Bool) => K [⟨.bool, r0, true⟩])
theorem s_impl_inRange (k : Nat) : SoundF Tryd.prog glob 33 (ftab (.c (.val (.int .i64)) (.c (.val (.int .i64)) (.c (.val (.int .i64)) .e))) (F_impl_inRange k)) :=
  fun_ok (cx := cx_impl_inRange) (by kernel_rfl) ⟨types, (E_spec_NeighbourOf_ok k).1, (E_spec_NeighbourOf_ok k).2, mixed, rfl⟩ Tryd.func33 rfl (LoopsOK.nil) [] (by kernel_rfl) (fun x K => by kernel_rfl)
def E_impl_inRange (k : Nat) : Tbl := tcons 33 (ftab (.c (.val (.int .i64)) (.c (.val (.int .i64)) (.c (.val (.int .i64)) .e))) (F_impl_inRange k)) (E_spec_NeighbourOf k)
theorem E_impl_inRange_ok (k : Nat) : SoundE Tryd.prog glob (E_impl_inRange k) ∧ NatE (E_impl_inRange k) := ⟨tcons_sound (s_impl_inRange k) (E_spec_NeighbourOf_ok k).1, tcons_nat (s_impl_inRange k) (E_spec_NeighbourOf_ok k).2⟩
/-- impl.IsHex -/
def cx_impl_IsHex : Cx := { N := 11, G := glob, C := tys, ad := fun d => false, wk := false }
def F_impl_IsHex (k : Nat) : FArg (.c (.val (.st (.pair (.int .i64) (.int .i64)))) .e) := fun x K => impl_IsHex x.1 (fun (r0 : Bool) => K [⟨.bool, r0, true⟩])
theorem s_impl_IsHex (k : Nat) : SoundF Tryd.prog glob 25 (ftab (.c (.val (.st (.pair (.int .i64) (.int .i64)))) .e) (F_impl_IsHex k)) :=
  fun_ok (cx := cx_impl_IsHex) (by kernel_rfl) ⟨types, (E_impl_inRange_ok k).1, (E_impl_inRange_ok k).2, mixed, rfl⟩ Tryd.func25 rfl (LoopsOK.nil) [] (by kernel_rfl) (fun x K => by kernel_rfl)
def E_impl_IsHex (k : Nat) : Tbl := tcons 25 (ftab (.c (.val (.st (.pair (.int .i64) (.int .i64)))) .e) (F_impl_IsHex k)) (E_impl_inRange k)
theorem E_impl_IsHex_ok (k : Nat) : SoundE Tryd.prog glob (E_impl_IsHex k) ∧ NatE (E_impl_IsHex k) := ⟨tcons_sound (s_impl_IsHex k) (E_impl_inRange_ok k).1, tcons_nat (s_impl_IsHex k) (E_impl_inRange_ok k).2⟩
/-- impl.isDirection -/
def cx_impl_isDirection : Cx := { N := 5, G := glob, C := tys, ad := fun d => false, wk := false }
def F_impl_isDirection (k : Nat) : FArg (.c (.val (.int .i64)) .e) := fun x K => impl_isDirection x.1 (fun (r0 : Bool) => K [⟨.bool, r0, true⟩])
theorem s_impl_isDirection (k : Nat) : SoundF Tryd.prog glob 29 (ftab (.c (.val (.int .i64)) .e) (F_impl_isDirection k)) :=
  fun_ok (cx := cx_impl_isDirection) (by kernel_rfl) ⟨types, (E_impl_IsHex_ok k).1, (E_impl_IsHex_ok k).2, mixed, rfl⟩ Tryd.func29 rfl (LoopsOK.nil) [] (by kernel_rfl) (fun x K => by kernel_rfl)
def E_impl_isDirection (k : Nat) : Tbl := tcons 29 (ftab (.c (.val (.int .i64)) .e) (F_impl_isDirection k)) (E_impl_IsHex k)
theorem E_impl_isDirection_ok (k : Nat) : SoundE Tryd.prog glob (E_impl_isDirection k) ∧ NatE (E_impl_isDirection k) := ⟨tcons_sound (s_impl_isDirection k) (E_impl_IsHex_ok k).1, tcons_nat (s_impl_isDirection k) (E_impl_IsHex_ok k).2⟩
/-- impl.stepBy -/
def cx_impl_stepBy : Cx := { N := 26, G := glob, C := tys, ad := fun d => false, wk := false }
def F_impl_stepBy (k : Nat) : FArg (.c (.val (.st (.pair (.int .i64) (.int .i64)))) (.c (.val (.int .i64)) (.c (.val (.int .i64)) .e))) := fun x K => impl_stepBy x.1 x.2.1 x.2.2.1 (fun (r0 : Int × Int) => K [⟨(.st (.pair (.int .i64) (.int .i64))), r0, true⟩])
theorem s_impl_stepBy (k : Nat) : SoundF Tryd.prog glob 26 (ftab (.c (.val (.st (.pair (.int .i64) (.int .i64)))) (.c (.val (.int .i64)) (.c (.val (.int .i64)) .e))) (F_impl_stepBy k)) :=
  fun_ok (cx := cx_impl_stepBy) (by kernel_rfl) ⟨types, (E_impl_isDirection_ok k).1, (E_impl_isDirection_ok k).2, mixed, rfl⟩ Tryd.func26 rfl (LoopsOK.nil) [] (by kernel_rfl) (fun x K => by kernel_rfl)
def E_impl_stepBy (k : Nat) : Tbl := tcons 26 (ftab (.c (.val (.st (.pair (.int .i64) (.int .i64)))) (.c (.val (.int .i64)) (.c (.val (.int .i64)) .e))) (F_impl_stepBy k)) (E_impl_isDirection k)
theorem E_impl_stepBy_ok (k : Nat) : SoundE Tryd.prog glob (E_impl_stepBy k) ∧ NatE (E_impl_stepBy k) := ⟨tcons_sound (s_impl_stepBy k) (E_impl_isDirection_ok k).1, tcons_nat (s_impl_stepBy k) (E_impl_isDirection_ok k).2⟩
/-- impl.checkedHex -/
def cx_impl_checkedHex : Cx := { N := 9, G := glob, C := tys, ad := fun d => false, wk := false }
def F_impl_checkedHex (k : Nat) : FArg (.c (.val (.st (.pair (.int .i64) (.int .i64)))) .e) := fun x K => impl_checkedHex x.1 (fun (r0 : Int × Int) (r1 : Bool) => K [⟨(.st (.pair (.int .i64) (.int .i64))), r0, true⟩, ⟨.bool, r1, true⟩])
theorem s_impl_checkedHex (k : Nat) : SoundF Tryd.prog glob 30 (ftab (.c (.val (.st (.pair (.int .i64) (.int .i64)))) .e) (F_impl_checkedHex k)) :=
  fun_ok (cx := cx_impl_checkedHex) (by kernel_rfl) ⟨types, (E_impl_stepBy_ok k).1, (E_impl_stepBy_ok k).2, mixed, rfl⟩ Tryd.func30 rfl (LoopsOK.nil) [] (by kernel_rfl) (fun x K => by kernel_rfl)
def E_impl_checkedHex (k : Nat) : Tbl := tcons 30 (ftab (.c (.val (.st (.pair (.int .i64) (.int .i64)))) .e) (F_impl_checkedHex k)) (E_impl_stepBy k)
theorem E_impl_checkedHex_ok (k : Nat) : SoundE Tryd.prog glob (E_impl_checkedHex k) ∧ NatE (E_impl_checkedHex k) := ⟨tcons_sound (s_impl_checkedHex k) (E_impl_stepBy_ok k).1, tcons_nat (s_impl_checkedHex k) (E_impl_stepBy_ok k).2⟩
/-- impl.NeighbourOf -/
def cx_impl_NeighbourOf : Cx := { N := 21, G := glob, C := tys, ad := fun d => false, wk := false }
def F_impl_NeighbourOf (k : Nat) : FArg (.c (.val (.st (.pair (.int .i64) (.int .i64)))) (.c (.val (.int .i64)) .e)) := fun x K => impl_NeighbourOf x.1 x.2.1 (fun (r0 : Int × Int) (r1 : Bool) => K [⟨(.st (.pair (.int .i64) (.int .i64))), r0, true⟩, ⟨.bool, r1, true⟩])
theorem s_impl_NeighbourOf (k : Nat) : SoundF Tryd.prog glob 11 (ftab (.c (.val (.st (.pair (.int .i64) (.int .i64)))) (.c (.val (.int .i64)) .e)) (F_impl_NeighbourOf k)) :=
  fun_ok (cx := cx_impl_NeighbourOf) (by kernel_rfl) ⟨types, (E_impl_checkedHex_ok k).1, (E_impl_checkedHex_ok k).2, mixed, rfl⟩ Tryd.func11 rfl (LoopsOK.nil) [] (by kernel_rfl) (fun x K => by kernel_rfl)
def E_impl_NeighbourOf (k : Nat) : Tbl := tcons 11 (ftab (.c (.val (.st (.pair (.int .i64) (.int .i64)))) (.c (.val (.int .i64)) .e)) (F_impl_NeighbourOf k)) (E_impl_checkedHex k)
theorem E_impl_NeighbourOf_ok (k : Nat) : SoundE Tryd.prog glob (E_impl_NeighbourOf k) ∧ NatE (E_impl_NeighbourOf k) := ⟨tcons_sound (s_impl_NeighbourOf k) (E_impl_checkedHex_ok k).1, tcons_nat (s_impl_NeighbourOf k) (E_impl_checkedHex_ok k).2⟩
/-- laws.eqHex -/
def cx_laws_eqHex : Cx := { N := 15, G := glob, C := tys, ad := fun d => false, wk := false }
def F_laws_eqHex (k : Nat) : FArg (.c (.val (.st (.pair (.int .i64) (.int .i64)))) (.c (.val (.st (.pair (.int .i64) (.int .i64)))) .e)) := fun x K => laws_eqHex x.1 x.2.1 (fun (r0 : Bool) => K [⟨.bool, r0, true⟩])
theorem s_laws_eqHex (k : Nat) : SoundF Tryd.prog glob 12 (ftab (.c (.val (.st (.pair (.int .i64) (.int .i64)))) (.c (.val (.st (.pair (.int .i64) (.int .i64)))) .e)) (F_laws_eqHex k)) :=
  fun_ok (cx := cx_laws_eqHex) (by kernel_rfl) ⟨types, (E_impl_NeighbourOf_ok k).1, (E_impl_NeighbourOf_ok k).2, mixed, rfl⟩ Tryd.func12 rfl (LoopsOK.nil) [] (by kernel_rfl) (fun x K => by kernel_rfl)
def E_laws_eqHex (k : Nat) : Tbl := tcons 12 (ftab (.c (.val (.st (.pair (.int .i64) (.int .i64)))) (.c (.val (.st (.pair (.int .i64) (.int .i64)))) .e)) (F_laws_eqHex k)) (E_impl_NeighbourOf k)
theorem E_laws_eqHex_ok (k : Nat) : SoundE Tryd.prog glob (E_laws_eqHex k) ∧ NatE (E_laws_eqHex k) := ⟨tcons_sound (s_laws_eqHex k) (E_impl_NeighbourOf_ok k).1, tcons_nat (s_laws_eqHex k) (E_impl_NeighbourOf_ok k).2⟩
/-- laws.FnExactNeighbourOf -/
def cx_laws_FnExactNeighbourOf : Cx := { N := 32, G := glob, C := tys, ad := fun d => false, wk := false }
def F_laws_FnExactNeighbourOf (k : Nat) : FArg (.c (.val (.st (.pair (.int .i64) (.int .i64)))) (.c (.val (.int .i64)) .e)) := fun x K => laws_FnExactNeighbourOf x.1 x.2.1 (fun (r0 : Bool) => K [⟨.bool, r0, true⟩])
theorem s_laws_FnExactNeighbourOf (k : Nat) : SoundF Tryd.prog glob 4 (ftab (.c (.val (.st (.pair (.int .i64) (.int .i64)))) (.c (.val (.int .i64)) .e)) (F_laws_FnExactNeighbourOf k)) :=
  fun_ok (cx := cx_laws_FnExactNeighbourOf) (by kernel_rfl) ⟨types, (E_laws_eqHex_ok k).1, (E_laws_eqHex_ok k).2, mixed, rfl⟩ Tryd.func4 rfl (LoopsOK.nil) [] (by kernel_rfl) (fun x K => by kernel_rfl)
def E_laws_FnExactNeighbourOf (k : Nat) : Tbl := tcons 4 (ftab (.c (.val (.st (.pair (.int .i64) (.int .i64)))) (.c (.val (.int .i64)) .e)) (F_laws_FnExactNeighbourOf k)) (E_laws_eqHex k)
theorem E_laws_FnExactNeighbourOf_ok (k : Nat) : SoundE Tryd.prog glob (E_laws_FnExactNeighbourOf k) ∧ NatE (E_laws_FnExactNeighbourOf k) := ⟨tcons_sound (s_laws_FnExactNeighbourOf k) (E_laws_eqHex_ok k).1, tcons_nat (s_laws_FnExactNeighbourOf k) (E_laws_eqHex_ok k).2⟩
end Go.Proofs.YtpaikmmncnigkaaDoor.TieNeighbourOf
