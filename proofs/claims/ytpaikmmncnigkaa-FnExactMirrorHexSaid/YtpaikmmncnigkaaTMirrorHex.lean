import Derived.Test.YtpaikmmncnigkaaEv2
import Derived.Test.YtpaikmmncnigkaaLg0ATAL
import Derived.KernelRfl
import Derived.Eval
import Derived.Test.YtpaikmmncnigkaaProg
import Derived.Test.YtpaikmmncnigkaaChecked
set_option linter.unusedVariables false
set_option linter.unusedSimpArgs false
set_option linter.unusedSectionVars false
set_option linter.unusedVariables false
set_option maxRecDepth 100000
namespace Go.Proofs.Ytpaikmmncnigkaa.TieMirrorHex
open Go Go.Ev Go.Lg Go.Proofs
def tys : Nat → Option Ty := lookT [(3, (.int .i64)), (4, .bool), (24, (.st (.pair (.int .i64) (.int .i64)))), (26, (.st (.pair (.int .i64) (.int .i64))))]
def glob : Nat → AV := fun g => .bot
theorem types : Types Try.prog tys := types_of (by kernel_rfl)
theorem mixed : Try.prog.follows .mixedOrders = true := Checked.mixed Try.checked
theorem e0 : SoundE Try.prog glob tnil ∧ NatE tnil := ⟨tnil_sound, tnil_nat⟩
/-- laws.toHex -/
def cx_laws_toHex : Cx := { N := 11, G := glob, C := tys, ad := fun d => false, wk := false }
def F_laws_toHex (k : Nat) : FArg (.c (.val (.st (.pair (.int .i64) (.int .i64)))) .e) := fun x K => laws_toHex x.1 (fun (r0 : Int × Int) => K [⟨(.st (.pair (.int .i64) (.int .i64))), r0, true⟩])
theorem s_laws_toHex (k : Nat) : SoundF Try.prog glob 14 (ftab (.c (.val (.st (.pair (.int .i64) (.int .i64)))) .e) (F_laws_toHex k)) :=
  fun_ok (cx := cx_laws_toHex) (by kernel_rfl) ⟨types, (e0).1, (e0).2, mixed, rfl⟩ Try.func14 rfl (LoopsOK.nil) [] (by kernel_rfl) (fun x K => by kernel_rfl)
def E_laws_toHex (k : Nat) : Tbl := tcons 14 (ftab (.c (.val (.st (.pair (.int .i64) (.int .i64)))) .e) (F_laws_toHex k)) (tnil)
theorem E_laws_toHex_ok (k : Nat) : SoundE Try.prog glob (E_laws_toHex k) ∧ NatE (E_laws_toHex k) := ⟨tcons_sound (s_laws_toHex k) (e0).1, tcons_nat (s_laws_toHex k) (e0).2⟩
/-- spec.l1In -/
def cx_spec_l1In : Cx := { N := 15, G := glob, C := tys, ad := fun d => false, wk := false }
def F_spec_l1In (k : Nat) : FArg (.c (.val (.int .i64)) (.c (.val (.int .i64)) (.c (.val (.int .i64)) .e))) := fun x K => spec_l1In x.1 x.2.1 x.2.2.1 (fun (r0 : Bool) => K [⟨.bool, r0, true⟩])
theorem s_spec_l1In (k : Nat) : SoundF Try.prog glob 43 (ftab (.c (.val (.int .i64)) (.c (.val (.int .i64)) (.c (.val (.int .i64)) .e))) (F_spec_l1In k)) :=
  fun_ok (cx := cx_spec_l1In) (by kernel_rfl) ⟨types, (E_laws_toHex_ok k).1, (E_laws_toHex_ok k).2, mixed, rfl⟩ Try.func43 rfl (LoopsOK.nil) [] (by kernel_rfl) (fun x K => by kernel_rfl)
def E_spec_l1In (k : Nat) : Tbl := tcons 43 (ftab (.c (.val (.int .i64)) (.c (.val (.int .i64)) (.c (.val (.int .i64)) .e))) (F_spec_l1In k)) (E_laws_toHex k)
theorem E_spec_l1In_ok (k : Nat) : SoundE Try.prog glob (E_spec_l1In k) ∧ NatE (E_spec_l1In k) := ⟨tcons_sound (s_spec_l1In k) (E_laws_toHex_ok k).1, tcons_nat (s_spec_l1In k) (E_laws_toHex_ok k).2⟩
/-- spec.hGood -/
def cx_spec_hGood : Cx := { N := 11, G := glob, C := tys, ad := fun d => false, wk := false }
def F_spec_hGood (k : Nat) : FArg (.c (.val (.st (.pair (.int .i64) (.int .i64)))) .e) := fun x K => spec_hGood x.1 (fun (r0 : Bool) => K [⟨.bool, r0, true⟩])
theorem s_spec_hGood (k : Nat) : SoundF Try.prog glob 41 (ftab (.c (.val (.st (.pair (.int .i64) (.int .i64)))) .e) (F_spec_hGood k)) :=
  fun_ok (cx := cx_spec_hGood) (by kernel_rfl) ⟨types, (E_spec_l1In_ok k).1, (E_spec_l1In_ok k).2, mixed, rfl⟩ Try.func41 rfl (LoopsOK.nil) [] (by kernel_rfl) (fun x K => by kernel_rfl)
def E_spec_hGood (k : Nat) : Tbl := tcons 41 (ftab (.c (.val (.st (.pair (.int .i64) (.int .i64)))) .e) (F_spec_hGood k)) (E_spec_l1In k)
theorem E_spec_hGood_ok (k : Nat) : SoundE Try.prog glob (E_spec_hGood k) ∧ NatE (E_spec_hGood k) := ⟨tcons_sound (s_spec_hGood k) (E_spec_l1In_ok k).1, tcons_nat (s_spec_hGood k) (E_spec_l1In_ok k).2⟩
/-- spec.hIf -/
def cx_spec_hIf : Cx := { N := 9, G := glob, C := tys, ad := fun d => false, wk := false }
def F_spec_hIf (k : Nat) : FArg (.c (.val (.st (.pair (.int .i64) (.int .i64)))) .e) := fun x K => spec_hIf x.1 (fun (r0 : Int × Int) (r1 : Bool) => K [⟨(.st (.pair (.int .i64) (.int .i64))), r0, true⟩, ⟨.bool, r1, true⟩])
theorem s_spec_hIf (k : Nat) : SoundF Try.prog glob 47 (ftab (.c (.val (.st (.pair (.int .i64) (.int .i64)))) .e) (F_spec_hIf k)) :=
  fun_ok (cx := cx_spec_hIf) (by kernel_rfl) ⟨types, (E_spec_hGood_ok k).1, (E_spec_hGood_ok k).2, mixed, rfl⟩ Try.func47 rfl (LoopsOK.nil) [] (by kernel_rfl) (fun x K => by kernel_rfl)
def E_spec_hIf (k : Nat) : Tbl := tcons 47 (ftab (.c (.val (.st (.pair (.int .i64) (.int .i64)))) .e) (F_spec_hIf k)) (E_spec_hGood k)
theorem E_spec_hIf_ok (k : Nat) : SoundE Try.prog glob (E_spec_hIf k) ∧ NatE (E_spec_hIf k) := ⟨tcons_sound (s_spec_hIf k) (E_spec_hGood_ok k).1, tcons_nat (s_spec_hIf k) (E_spec_hGood_ok k).2⟩
/-- spec.MirrorHex -/
def cx_spec_MirrorHex : Cx := { N := 35, G := glob, C := tys, ad := fun d => false, wk := false }
def F_spec_MirrorHex (k : Nat) : FArg (.c (.val (.st (.pair (.int .i64) (.int .i64)))) (.c (.val (.st (.pair (.int .i64) (.int .i64)))) .e)) := fun x K => spec_MirrorHex x.1 x.2.1 (fun (r0 : Int × Int) (r1 : Bool) => K [⟨(.st (.pair (.int .i64) (.int .i64))), r0, true⟩, ⟨.bool, r1, true⟩])
theorem s_spec_MirrorHex (k : Nat) : SoundF Try.prog glob 20 (ftab (.c (.val (.st (.pair (.int .i64) (.int .i64)))) (.c (.val (.st (.pair (.int .i64) (.int .i64)))) .e)) (F_spec_MirrorHex k)) :=
  fun_ok (cx := cx_spec_MirrorHex) (by kernel_rfl) ⟨types, (E_spec_hIf_ok k).1, (E_spec_hIf_ok k).2, mixed, rfl⟩ Try.func20 rfl (LoopsOK.nil) [] (by kernel_rfl) (fun x K => by kernel_rfl)
def E_spec_MirrorHex (k : Nat) : Tbl := tcons 20 (ftab (.c (.val (.st (.pair (.int .i64) (.int .i64)))) (.c (.val (.st (.pair (.int .i64) (.int .i64)))) .e)) (F_spec_MirrorHex k)) (E_spec_hIf k)
theorem E_spec_MirrorHex_ok (k : Nat) : SoundE Try.prog glob (E_spec_MirrorHex k) ∧ NatE (E_spec_MirrorHex k) := ⟨tcons_sound (s_spec_MirrorHex k) (E_spec_hIf_ok k).1, tcons_nat (s_spec_MirrorHex k) (E_spec_hIf_ok k).2⟩
/-- impl.inRange -/
def cx_impl_inRange : Cx := { N := 15, G := glob, C := tys, ad := fun d => false, wk := false }
def F_impl_inRange (k : Nat) : FArg (.c (.val (.int .i64)) (.c (.val (.int .i64)) (.c (.val (.int .i64)) .e))) := fun x K => impl_inRange x.1 x.2.1 x.2.2.1 (fun (r0 : Bool) => K [⟨.bool, r0, true⟩])
theorem s_impl_inRange (k : Nat) : SoundF Try.prog glob 42 (ftab (.c (.val (.int .i64)) (.c (.val (.int .i64)) (.c (.val (.int .i64)) .e))) (F_impl_inRange k)) :=
  fun_ok (cx := cx_impl_inRange) (by kernel_rfl) ⟨types, (E_spec_MirrorHex_ok k).1, (E_spec_MirrorHex_ok k).2, mixed, rfl⟩ Try.func42 rfl (LoopsOK.nil) [] (by kernel_rfl) (fun x K => by kernel_rfl)
def E_impl_inRange (k : Nat) : Tbl := tcons 42 (ftab (.c (.val (.int .i64)) (.c (.val (.int .i64)) (.c (.val (.int .i64)) .e))) (F_impl_inRange k)) (E_spec_MirrorHex k)
theorem E_impl_inRange_ok (k : Nat) : SoundE Try.prog glob (E_impl_inRange k) ∧ NatE (E_impl_inRange k) := ⟨tcons_sound (s_impl_inRange k) (E_spec_MirrorHex_ok k).1, tcons_nat (s_impl_inRange k) (E_spec_MirrorHex_ok k).2⟩
/-- impl.IsHex -/
def cx_impl_IsHex : Cx := { N := 11, G := glob, C := tys, ad := fun d => false, wk := false }
def F_impl_IsHex (k : Nat) : FArg (.c (.val (.st (.pair (.int .i64) (.int .i64)))) .e) := fun x K => impl_IsHex x.1 (fun (r0 : Bool) => K [⟨.bool, r0, true⟩])
theorem s_impl_IsHex (k : Nat) : SoundF Try.prog glob 15 (ftab (.c (.val (.st (.pair (.int .i64) (.int .i64)))) .e) (F_impl_IsHex k)) :=
  fun_ok (cx := cx_impl_IsHex) (by kernel_rfl) ⟨types, (E_impl_inRange_ok k).1, (E_impl_inRange_ok k).2, mixed, rfl⟩ Try.func15 rfl (LoopsOK.nil) [] (by kernel_rfl) (fun x K => by kernel_rfl)
def E_impl_IsHex (k : Nat) : Tbl := tcons 15 (ftab (.c (.val (.st (.pair (.int .i64) (.int .i64)))) .e) (F_impl_IsHex k)) (E_impl_inRange k)
theorem E_impl_IsHex_ok (k : Nat) : SoundE Try.prog glob (E_impl_IsHex k) ∧ NatE (E_impl_IsHex k) := ⟨tcons_sound (s_impl_IsHex k) (E_impl_inRange_ok k).1, tcons_nat (s_impl_IsHex k) (E_impl_inRange_ok k).2⟩
/-- impl.checkedHex -/
def cx_impl_checkedHex : Cx := { N := 9, G := glob, C := tys, ad := fun d => false, wk := false }
def F_impl_checkedHex (k : Nat) : FArg (.c (.val (.st (.pair (.int .i64) (.int .i64)))) .e) := fun x K => impl_checkedHex x.1 (fun (r0 : Int × Int) (r1 : Bool) => K [⟨(.st (.pair (.int .i64) (.int .i64))), r0, true⟩, ⟨.bool, r1, true⟩])
theorem s_impl_checkedHex (k : Nat) : SoundF Try.prog glob 48 (ftab (.c (.val (.st (.pair (.int .i64) (.int .i64)))) .e) (F_impl_checkedHex k)) :=
  fun_ok (cx := cx_impl_checkedHex) (by kernel_rfl) ⟨types, (E_impl_IsHex_ok k).1, (E_impl_IsHex_ok k).2, mixed, rfl⟩ Try.func48 rfl (LoopsOK.nil) [] (by kernel_rfl) (fun x K => by kernel_rfl)
def E_impl_checkedHex (k : Nat) : Tbl := tcons 48 (ftab (.c (.val (.st (.pair (.int .i64) (.int .i64)))) .e) (F_impl_checkedHex k)) (E_impl_IsHex k)
theorem E_impl_checkedHex_ok (k : Nat) : SoundE Try.prog glob (E_impl_checkedHex k) ∧ NatE (E_impl_checkedHex k) := ⟨tcons_sound (s_impl_checkedHex k) (E_impl_IsHex_ok k).1, tcons_nat (s_impl_checkedHex k) (E_impl_IsHex_ok k).2⟩
/-- impl.MirrorHex -/
def cx_impl_MirrorHex : Cx := { N := 35, G := glob, C := tys, ad := fun d => false, wk := false }
def F_impl_MirrorHex (k : Nat) : FArg (.c (.val (.st (.pair (.int .i64) (.int .i64)))) (.c (.val (.st (.pair (.int .i64) (.int .i64)))) .e)) := fun x K => impl_MirrorHex x.1 x.2.1 (fun (r0 : Int × Int) (r1 : Bool) => K [⟨(.st (.pair (.int .i64) (.int .i64))), r0, true⟩, ⟨.bool, r1, true⟩])
theorem s_impl_MirrorHex (k : Nat) : SoundF Try.prog glob 21 (ftab (.c (.val (.st (.pair (.int .i64) (.int .i64)))) (.c (.val (.st (.pair (.int .i64) (.int .i64)))) .e)) (F_impl_MirrorHex k)) :=
  fun_ok (cx := cx_impl_MirrorHex) (by kernel_rfl) ⟨types, (E_impl_checkedHex_ok k).1, (E_impl_checkedHex_ok k).2, mixed, rfl⟩ Try.func21 rfl (LoopsOK.nil) [] (by kernel_rfl) (fun x K => by kernel_rfl)
def E_impl_MirrorHex (k : Nat) : Tbl := tcons 21 (ftab (.c (.val (.st (.pair (.int .i64) (.int .i64)))) (.c (.val (.st (.pair (.int .i64) (.int .i64)))) .e)) (F_impl_MirrorHex k)) (E_impl_checkedHex k)
theorem E_impl_MirrorHex_ok (k : Nat) : SoundE Try.prog glob (E_impl_MirrorHex k) ∧ NatE (E_impl_MirrorHex k) := ⟨tcons_sound (s_impl_MirrorHex k) (E_impl_checkedHex_ok k).1, tcons_nat (s_impl_MirrorHex k) (E_impl_checkedHex_ok k).2⟩
/-- laws.eqHex -/
def cx_laws_eqHex : Cx := { N := 15, G := glob, C := tys, ad := fun d => false, wk := false }
def F_laws_eqHex (k : Nat) : FArg (.c (.val (.st (.pair (.int .i64) (.int .i64)))) (.c (.val (.st (.pair (.int .i64) (.int .i64)))) .e)) := fun x K => laws_eqHex x.1 x.2.1 (fun (r0 : Bool) => K [⟨.bool, r0, true⟩])
theorem s_laws_eqHex (k : Nat) : SoundF Try.prog glob 22 (ftab (.c (.val (.st (.pair (.int .i64) (.int .i64)))) (.c (.val (.st (.pair (.int .i64) (.int .i64)))) .e)) (F_laws_eqHex k)) :=
  fun_ok (cx := cx_laws_eqHex) (by kernel_rfl) ⟨types, (E_impl_MirrorHex_ok k).1, (E_impl_MirrorHex_ok k).2, mixed, rfl⟩ Try.func22 rfl (LoopsOK.nil) [] (by kernel_rfl) (fun x K => by kernel_rfl)
def E_laws_eqHex (k : Nat) : Tbl := tcons 22 (ftab (.c (.val (.st (.pair (.int .i64) (.int .i64)))) (.c (.val (.st (.pair (.int .i64) (.int .i64)))) .e)) (F_laws_eqHex k)) (E_impl_MirrorHex k)
theorem E_laws_eqHex_ok (k : Nat) : SoundE Try.prog glob (E_laws_eqHex k) ∧ NatE (E_laws_eqHex k) := ⟨tcons_sound (s_laws_eqHex k) (E_impl_MirrorHex_ok k).1, tcons_nat (s_laws_eqHex k) (E_impl_MirrorHex_ok k).2⟩
/-- laws.FnExactMirrorHex -/
def cx_laws_FnExactMirrorHex : Cx := { N := 34, G := glob, C := tys, ad := fun d => false, wk := false }
def F_laws_FnExactMirrorHex (k : Nat) : FArg (.c (.val (.st (.pair (.int .i64) (.int .i64)))) (.c (.val (.st (.pair (.int .i64) (.int .i64)))) .e)) := fun x K => laws_FnExactMirrorHex x.1 x.2.1 (fun (r0 : Bool) => K [⟨.bool, r0, true⟩])
theorem s_laws_FnExactMirrorHex (k : Nat) : SoundF Try.prog glob 7 (ftab (.c (.val (.st (.pair (.int .i64) (.int .i64)))) (.c (.val (.st (.pair (.int .i64) (.int .i64)))) .e)) (F_laws_FnExactMirrorHex k)) :=
  fun_ok (cx := cx_laws_FnExactMirrorHex) (by kernel_rfl) ⟨types, (E_laws_eqHex_ok k).1, (E_laws_eqHex_ok k).2, mixed, rfl⟩ Try.func7 rfl (LoopsOK.nil) [] (by kernel_rfl) (fun x K => by kernel_rfl)
def E_laws_FnExactMirrorHex (k : Nat) : Tbl := tcons 7 (ftab (.c (.val (.st (.pair (.int .i64) (.int .i64)))) (.c (.val (.st (.pair (.int .i64) (.int .i64)))) .e)) (F_laws_FnExactMirrorHex k)) (E_laws_eqHex k)
theorem E_laws_FnExactMirrorHex_ok (k : Nat) : SoundE Try.prog glob (E_laws_FnExactMirrorHex k) ∧ NatE (E_laws_FnExactMirrorHex k) := ⟨tcons_sound (s_laws_FnExactMirrorHex k) (E_laws_eqHex_ok k).1, tcons_nat (s_laws_FnExactMirrorHex k) (E_laws_eqHex_ok k).2⟩
end Go.Proofs.Ytpaikmmncnigkaa.TieMirrorHex
