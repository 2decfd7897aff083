import Derived.Test.YtpaikmmncnigkaaEv2
import Derived.Test.YtpaikmmncnigkaaLg0ATAL
import Derived.KernelRfl
import Derived.Eval
import Derived.Test.YtpaikmmncnigkaaProg
import Derived.Test.YtpaikmmncnigkaaChecked
set_option linter.unusedVariables false
set_option linter.unusedSimpArgs false
set_option linter.unusedSectionVars false
set_option linter.unusedVariables false
set_option maxRecDepth 100000
namespace Go.Proofs.Ytpaikmmncnigkaa.TieTurnHex
open Go Go.Ev Go.Lg Go.Proofs
def tys : Nat → Option Ty := lookT [(3, (.int .i64)), (4, .bool), (24, (.st (.pair (.int .i64) (.int .i64)))), (26, (.st (.pair (.int .i64) (.int .i64))))]
def glob : Nat → AV := fun g => .bot
theorem types : Types Try.prog tys := types_of (by kernel_rfl)
theorem mixed : Try.prog.follows .mixedOrders = true := Checked.mixed Try.checked
theorem e0 : SoundE Try.prog glob tnil ∧ NatE tnil := ⟨tnil_sound, tnil_nat⟩
/-- laws.toHex -/
def cx_laws_toHex : Cx := { N := 11, G := glob, C := tys, ad := fun d => false, wk := false }
def F_laws_toHex (k : Nat) : FArg (.c (.val (.st (.pair (.int .i64) (.int .i64)))) .e) := fun x K => laws_toHex x.1 (fun (r0 : Int × Int) => K [⟨(.st (.pair (.int .i64) (.int .i64))), r0, true⟩])
theorem s_laws_toHex (k : Nat) : SoundF Try.prog glob 14 (ftab (.c (.val (.st (.pair (.int .i64) (.int .i64)))) .e) (F_laws_toHex k)) :=
  fun_ok (cx := cx_laws_toHex) (by kernel_rfl) ⟨types, (e0).1, (e0).2, mixed, rfl⟩ Try.func14 rfl (LoopsOK.nil) [] (by kernel_rfl) (fun x K => by kernel_rfl)
def E_laws_toHex (k : Nat) : Tbl := tcons 14 (ftab (.c (.val (.st (.pair (.int .i64) (.int .i64)))) .e) (F_laws_toHex k)) (tnil)
theorem E_laws_toHex_ok (k : Nat) : SoundE Try.prog glob (E_laws_toHex k) ∧ NatE (E_laws_toHex k) := ⟨tcons_sound (s_laws_toHex k) (e0).1, tcons_nat (s_laws_toHex k) (e0).2⟩
/-- spec.l1In -/
def cx_spec_l1In : Cx := { N := 15, G := glob, C := tys, ad := fun d => false, wk := false }
def F_spec_l1In (k : Nat) : FArg (.c (.val (.int .i64)) (.c (.val (.int .i64)) (.c (.val (.int .i64)) .e))) := fun x K => spec_l1In x.1 x.2.1 x.2.2.1 (fun (r0 : Bool) => K [⟨.bool, r0, true⟩])
theorem s_spec_l1In (k : Nat) : SoundF Try.prog glob 43 (ftab (.c (.val (.int .i64)) (.c (.val (.int .i64)) (.c (.val (.int .i64)) .e))) (F_spec_l1In k)) :=
  fun_ok (cx := cx_spec_l1In) (by kernel_rfl) ⟨types, (E_laws_toHex_ok k).1, (E_laws_toHex_ok k).2, mixed, rfl⟩ Try.func43 rfl (LoopsOK.nil) [] (by kernel_rfl) (fun x K => by kernel_rfl)
def E_spec_l1In (k : Nat) : Tbl := tcons 43 (ftab (.c (.val (.int .i64)) (.c (.val (.int .i64)) (.c (.val (.int .i64)) .e))) (F_spec_l1In k)) (E_laws_toHex k)
theorem E_spec_l1In_ok (k : Nat) : SoundE Try.prog glob (E_spec_l1In k) ∧ NatE (E_spec_l1In k) := ⟨tcons_sound (s_spec_l1In k) (E_laws_toHex_ok k).1, tcons_nat (s_spec_l1In k) (E_laws_toHex_ok k).2⟩
/-- spec.hGood -/
def cx_spec_hGood : Cx := { N := 11, G := glob, C := tys, ad := fun d => false, wk := false }
def F_spec_hGood (k : Nat) : FArg (.c (.val (.st (.pair (.int .i64) (.int .i64)))) .e) := fun x K => spec_hGood x.1 (fun (r0 : Bool) => K [⟨.bool, r0, true⟩])
theorem s_spec_hGood (k : Nat) : SoundF Try.prog glob 41 (ftab (.c (.val (.st (.pair (.int .i64) (.int .i64)))) .e) (F_spec_hGood k)) :=
  fun_ok (cx := cx_spec_hGood) (by kernel_rfl) ⟨types, (E_spec_l1In_ok k).1, (E_spec_l1In_ok k).2, mixed, rfl⟩ Try.func41 rfl (LoopsOK.nil) [] (by kernel_rfl) (fun x K => by kernel_rfl)
def E_spec_hGood (k : Nat) : Tbl := tcons 41 (ftab (.c (.val (.st (.pair (.int .i64) (.int .i64)))) .e) (F_spec_hGood k)) (E_spec_l1In k)
theorem E_spec_hGood_ok (k : Nat) : SoundE Try.prog glob (E_spec_hGood k) ∧ NatE (E_spec_hGood k) := ⟨tcons_sound (s_spec_hGood k) (E_spec_l1In_ok k).1, tcons_nat (s_spec_hGood k) (E_spec_l1In_ok k).2⟩
/-- spec.hIf -/
def cx_spec_hIf : Cx := { N := 9, G := glob, C := tys, ad := fun d => false, wk := false }
def F_spec_hIf (k : Nat) : FArg (.c (.val (.st (.pair (.int .i64) (.int .i64)))) .e) := fun x K => spec_hIf x.1 (fun (r0 : Int × Int) (r1 : Bool) => K [⟨(.st (.pair (.int .i64) (.int .i64))), r0, true⟩, ⟨.bool, r1, true⟩])
theorem s_spec_hIf (k : Nat) : SoundF Try.prog glob 47 (ftab (.c (.val (.st (.pair (.int .i64) (.int .i64)))) .e) (F_spec_hIf k)) :=
  fun_ok (cx := cx_spec_hIf) (by kernel_rfl) ⟨types, (E_spec_hGood_ok k).1, (E_spec_hGood_ok k).2, mixed, rfl⟩ Try.func47 rfl (LoopsOK.nil) [] (by kernel_rfl) (fun x K => by kernel_rfl)
def E_spec_hIf (k : Nat) : Tbl := tcons 47 (ftab (.c (.val (.st (.pair (.int .i64) (.int .i64)))) .e) (F_spec_hIf k)) (E_spec_hGood k)
theorem E_spec_hIf_ok (k : Nat) : SoundE Try.prog glob (E_spec_hIf k) ∧ NatE (E_spec_hIf k) := ⟨tcons_sound (s_spec_hIf k) (E_spec_hGood_ok k).1, tcons_nat (s_spec_hIf k) (E_spec_hGood_ok k).2⟩
/-- spec.TurnHex -/
def cx_spec_TurnHex : Cx := { N := 57, G := glob, C := tys, ad := fun d => false, wk := false }
def sp_spec_TurnHex_l0 : LSp where
  cv := []
  ts := [(2, .val (.int .i64)), (4, .ptr 4), (6, .ptr 6), (8, .val (.int .i64)), (9, .val (.int .i64))]
  ids := [(4, .box (.st (.pair (.int .i64) (.int .i64))) (.val (.st (.pair (.int .i64) (.int .i64))))), (6, .box (.st (.pair (.int .i64) (.int .i64))) (.val (.st (.pair (.int .i64) (.int .i64)))))]
  tx := fun e => match e with | .exit i => bif Nat.beq i 0 then [4, 6, 8, 9] else [] | .ret => [] | .normal => []
  ix := fun e => match e with | .exit i => bif Nat.beq i 0 then [4, 6] else [] | .ret => [] | .normal => []
def F_spec_TurnHex_l0 (k : Nat) : LArg sp_spec_TurnHex_l0 := fun K n x y => spec_TurnHex_l0 k (fun (y0 : Int) (y1 : Int) (y2 : Int × Int) (y3 : Int × Int) => K (.exit 0) (mkSt [(4, .ptr 4 1 []), (6, .ptr 6 1 []), (8, .val (.int .i64) y0), (9, .val (.int .i64) y1)] [(4, some (.box (.st (.pair (.int .i64) (.int .i64))) (.val (.st (.pair (.int .i64) (.int .i64))) y2))), (6, some (.box (.st (.pair (.int .i64) (.int .i64))) (.val (.st (.pair (.int .i64) (.int .i64))) y3)))])) n x.1 x.2.2.2.1 x.2.2.2.2.1 y.1 y.2.1
def LO_spec_TurnHex_l0 (k : Nat) : LTbl := (lcons 4 (ltab sp_spec_TurnHex_l0 (F_spec_TurnHex_l0 k) k) lnil)
theorem lk_spec_TurnHex_l0 (k : Nat) : LoopsOK Try.prog glob (E_spec_hIf k) cx_spec_TurnHex (LO_spec_TurnHex_l0 k) ((4, (loopB Try.f25 4)) :: []) :=
  LoopsOK.cons (LoopsOK.nil) (E_spec_hIf_ok k).2 (F := F_spec_TurnHex_l0 k) k [] (by kernel_rfl) (by kernel_rfl) (fun K x y => rfl) (fun n x y K => by kernel_rfl)
def F_spec_TurnHex (k : Nat) : FArg (.c (.val (.st (.pair (.int .i64) (.int .i64)))) (.c (.val (.st (.pair (.int .i64) (.int .i64)))) (.c (.val (.int .i64)) .e))) := fun x K => spec_TurnHex k x.1 x.2.1 x.2.2.1 (fun (r0 : Int × Int) (r1 : Bool) => K [⟨(.st (.pair (.int .i64) (.int .i64))), r0, true⟩, ⟨.bool, r1, true⟩])
theorem s_spec_TurnHex (k : Nat) : SoundF Try.prog glob 25 (ftab (.c (.val (.st (.pair (.int .i64) (.int .i64)))) (.c (.val (.st (.pair (.int .i64) (.int .i64)))) (.c (.val (.int .i64)) .e))) (F_spec_TurnHex k)) :=
  fun_ok (cx := cx_spec_TurnHex) (by kernel_rfl) ⟨types, (E_spec_hIf_ok k).1, (E_spec_hIf_ok k).2, mixed, rfl⟩ Try.func25 rfl (lk_spec_TurnHex_l0 k) [0] (by kernel_rfl) (fun x K => by kernel_rfl)
def E_spec_TurnHex (k : Nat) : Tbl := tcons 25 (ftab (.c (.val (.st (.pair (.int .i64) (.int .i64)))) (.c (.val (.st (.pair (.int .i64) (.int .i64)))) (.c (.val (.int .i64)) .e))) (F_spec_TurnHex k)) (E_spec_hIf k)
theorem E_spec_TurnHex_ok (k : Nat) : SoundE Try.prog glob (E_spec_TurnHex k) ∧ NatE (E_spec_TurnHex k) := ⟨tcons_sound (s_spec_TurnHex k) (E_spec_hIf_ok k).1, tcons_nat (s_spec_TurnHex k) (E_spec_hIf_ok k).2⟩
/-- impl.inRange -/
def cx_impl_inRange : Cx := { N := 15, G := glob, C := tys, ad := fun d => false, wk := false }
def F_impl_inRange (k : Nat) : FArg (.c (.val (.int .i64)) (.c (.val (.int .i64)) (.c (.val (.int .i64)) .e))) := fun x K => impl_inRange x.1 x.2.1 x.2.2.1 (fun (r0 : Bool) => K [⟨.bool, r0, true⟩])
theorem s_impl_inRange (k : Nat) : SoundF Try.prog glob 42 (ftab (.c (.val (.int .i64)) (.c (.val (.int .i64)) (.c (.val (.int .i64)) .e))) (F_impl_inRange k)) :=
  fun_ok (cx := cx_impl_inRange) (by kernel_rfl) ⟨types, (E_spec_TurnHex_ok k).1, (E_spec_TurnHex_ok k).2, mixed, rfl⟩ Try.func42 rfl (LoopsOK.nil) [] (by kernel_rfl) (fun x K => by kernel_rfl)
def E_impl_inRange (k : Nat) : Tbl := tcons 42 (ftab (.c (.val (.int .i64)) (.c (.val (.int .i64)) (.c (.val (.int .i64)) .e))) (F_impl_inRange k)) (E_spec_TurnHex k)
theorem E_impl_inRange_ok (k : Nat) : SoundE Try.prog glob (E_impl_inRange k) ∧ NatE (E_impl_inRange k) := ⟨tcons_sound (s_impl_inRange k) (E_spec_TurnHex_ok k).1, tcons_nat (s_impl_inRange k) (E_spec_TurnHex_ok k).2⟩
/-- impl.IsHex -/
def cx_impl_IsHex : Cx := { N := 11, G := glob, C := tys, ad := fun d => false, wk := false }
def F_impl_IsHex (k : Nat) : FArg (.c (.val (.st (.pair (.int .i64) (.int .i64)))) .e) := fun x K => impl_IsHex x.1 (fun (r0 : Bool) => K [⟨.bool, r0, true⟩])
theorem s_impl_IsHex (k : Nat) : SoundF Try.prog glob 15 (ftab (.c (.val (.st (.pair (.int .i64) (.int .i64)))) .e) (F_impl_IsHex k)) :=
  fun_ok (cx := cx_impl_IsHex) (by kernel_rfl) ⟨types, (E_impl_inRange_ok k).1, (E_impl_inRange_ok k).2, mixed, rfl⟩ Try.func15 rfl (LoopsOK.nil) [] (by kernel_rfl) (fun x K => by kernel_rfl)
def E_impl_IsHex (k : Nat) : Tbl := tcons 15 (ftab (.c (.val (.st (.pair (.int .i64) (.int .i64)))) .e) (F_impl_IsHex k)) (E_impl_inRange k)
theorem E_impl_IsHex_ok (k : Nat) : SoundE Try.prog glob (E_impl_IsHex k) ∧ NatE (E_impl_IsHex k) := ⟨tcons_sound (s_impl_IsHex k) (E_impl_inRange_ok k).1, tcons_nat (s_impl_IsHex k) (E_impl_inRange_ok k).2⟩
/-- impl.checkedHex -/
def cx_impl_checkedHex : Cx := { N := 9, G := glob, C := tys, ad := fun d => false, wk := false }
def F_impl_checkedHex (k : Nat) : FArg (.c (.val (.st (.pair (.int .i64) (.int .i64)))) .e) := fun x K => impl_checkedHex x.1 (fun (r0 : Int × Int) (r1 : Bool) => K [⟨(.st (.pair (.int .i64) (.int .i64))), r0, true⟩, ⟨.bool, r1, true⟩])
theorem s_impl_checkedHex (k : Nat) : SoundF Try.prog glob 48 (ftab (.c (.val (.st (.pair (.int .i64) (.int .i64)))) .e) (F_impl_checkedHex k)) :=
  fun_ok (cx := cx_impl_checkedHex) (by kernel_rfl) ⟨types, (E_impl_IsHex_ok k).1, (E_impl_IsHex_ok k).2, mixed, rfl⟩ Try.func48 rfl (LoopsOK.nil) [] (by kernel_rfl) (fun x K => by kernel_rfl)
def E_impl_checkedHex (k : Nat) : Tbl := tcons 48 (ftab (.c (.val (.st (.pair (.int .i64) (.int .i64)))) .e) (F_impl_checkedHex k)) (E_impl_IsHex k)
theorem E_impl_checkedHex_ok (k : Nat) : SoundE Try.prog glob (E_impl_checkedHex k) ∧ NatE (E_impl_checkedHex k) := ⟨tcons_sound (s_impl_checkedHex k) (E_impl_IsHex_ok k).1, tcons_nat (s_impl_checkedHex k) (E_impl_IsHex_ok k).2⟩
/-- impl.TurnHex -/
def cx_impl_TurnHex : Cx := { N := 55, G := glob, C := tys, ad := fun d => false, wk := false }
def sp_impl_TurnHex_l0 : LSp where
  cv := []
  ts := [(4, .ptr 4), (6, .ptr 6), (8, .val (.int .i64)), (9, .val (.int .i64)), (34, .val (.int .i64)), (35, .val (.int .i64))]
  ids := [(4, .box (.st (.pair (.int .i64) (.int .i64))) (.val (.st (.pair (.int .i64) (.int .i64))))), (6, .box (.st (.pair (.int .i64) (.int .i64))) (.val (.st (.pair (.int .i64) (.int .i64)))))]
  tx := fun e => match e with | .exit i => bif Nat.beq i 0 then [4, 6, 8, 9] else [] | .ret => [] | .normal => []
  ix := fun e => match e with | .exit i => bif Nat.beq i 0 then [4, 6] else [] | .ret => [] | .normal => []
def F_impl_TurnHex_l0 (k : Nat) : LArg sp_impl_TurnHex_l0 := fun K n x y => impl_TurnHex_l0 k (fun (y0 : Int) (y1 : Int) (y2 : Int × Int) (y3 : Int × Int) => K (.exit 0) (mkSt [(4, .ptr 4 1 []), (6, .ptr 6 1 []), (8, .val (.int .i64) y0), (9, .val (.int .i64) y1)] [(4, some (.box (.st (.pair (.int .i64) (.int .i64))) (.val (.st (.pair (.int .i64) (.int .i64))) y2))), (6, some (.box (.st (.pair (.int .i64) (.int .i64))) (.val (.st (.pair (.int .i64) (.int .i64))) y3)))])) n x.2.2.1 x.2.2.2.1 x.2.2.2.2.1 x.2.2.2.2.2.1 y.1 y.2.1
def LO_impl_TurnHex_l0 (k : Nat) : LTbl := (lcons 5 (ltab sp_impl_TurnHex_l0 (F_impl_TurnHex_l0 k) k) lnil)
theorem lk_impl_TurnHex_l0 (k : Nat) : LoopsOK Try.prog glob (E_impl_checkedHex k) cx_impl_TurnHex (LO_impl_TurnHex_l0 k) ((5, (loopB Try.f26 5)) :: []) :=
  LoopsOK.cons (LoopsOK.nil) (E_impl_checkedHex_ok k).2 (F := F_impl_TurnHex_l0 k) k [] (by kernel_rfl) (by kernel_rfl) (fun K x y => rfl) (fun n x y K => by kernel_rfl)
def F_impl_TurnHex (k : Nat) : FArg (.c (.val (.st (.pair (.int .i64) (.int .i64)))) (.c (.val (.st (.pair (.int .i64) (.int .i64)))) (.c (.val (.int .i64)) .e))) := fun x K => impl_TurnHex k x.1 x.2.1 x.2.2.1 (fun (r0 : Int × Int) (r1 : Bool) => K [⟨(.st (.pair (.int .i64) (.int .i64))), r0, true⟩, ⟨.bool, r1, true⟩])
theorem s_impl_TurnHex (k : Nat) : SoundF Try.prog glob 26 (ftab (.c (.val (.st (.pair (.int .i64) (.int .i64)))) (.c (.val (.st (.pair (.int .i64) (.int .i64)))) (.c (.val (.int .i64)) .e))) (F_impl_TurnHex k)) :=
  fun_ok (cx := cx_impl_TurnHex) (by kernel_rfl) ⟨types, (E_impl_checkedHex_ok k).1, (E_impl_checkedHex_ok k).2, mixed, rfl⟩ Try.func26 rfl (lk_impl_TurnHex_l0 k) [0] (by kernel_rfl) (fun x K => by kernel_rfl)
def E_impl_TurnHex (k : Nat) : Tbl := tcons 26 (ftab (.c (.val (.st (.pair (.int .i64) (.int .i64)))) (.c (.val (.st (.pair (.int .i64) (.int .i64)))) (.c (.val (.int .i64)) .e))) (F_impl_TurnHex k)) (E_impl_checkedHex k)
theorem E_impl_TurnHex_ok (k : Nat) : SoundE Try.prog glob (E_impl_TurnHex k) ∧ NatE (E_impl_TurnHex k) := ⟨tcons_sound (s_impl_TurnHex k) (E_impl_checkedHex_ok k).1, tcons_nat (s_impl_TurnHex k) (E_impl_checkedHex_ok k).2⟩
/-- laws.eqHex -/
def cx_laws_eqHex : Cx := { N := 15, G := glob, C := tys, ad := fun d => false, wk := false }
def F_laws_eqHex (k : Nat) : FArg (.c (.val (.st (.pair (.int .i64) (.int .i64)))) (.c (.val (.st (.pair (.int .i64) (.int .i64)))) .e)) := fun x K => laws_eqHex x.1 x.2.1 (fun (r0 : Bool) => K [⟨.bool, r0, true⟩])
theorem s_laws_eqHex (k : Nat) : SoundF Try.prog glob 22 (ftab (.c (.val (.st (.pair (.int .i64) (.int .i64)))) (.c (.val (.st (.pair (.int .i64) (.int .i64)))) .e)) (F_laws_eqHex k)) :=
  fun_ok (cx := cx_laws_eqHex) (by kernel_rfl) ⟨types, (E_impl_TurnHex_ok k).1, (E_impl_TurnHex_ok k).2, mixed, rfl⟩ Try.func22 rfl (LoopsOK.nil) [] (by kernel_rfl) (fun x K => by kernel_rfl)
def E_laws_eqHex (k : Nat) : Tbl := tcons 22 (ftab (.c (.val (.st (.pair (.int .i64) (.int .i64)))) (.c (.val (.st (.pair (.int .i64) (.int .i64)))) .e)) (F_laws_eqHex k)) (E_impl_TurnHex k)
theorem E_laws_eqHex_ok (k : Nat) : SoundE Try.prog glob (E_laws_eqHex k) ∧ NatE (E_laws_eqHex k) := ⟨tcons_sound (s_laws_eqHex k) (E_impl_TurnHex_ok k).1, tcons_nat (s_laws_eqHex k) (E_impl_TurnHex_ok k).2⟩
/-- laws.FnExactTurnHex -/
def cx_laws_FnExactTurnHex : Cx := { N := 38, G := glob, C := tys, ad := fun d => false, wk := false }
def F_laws_FnExactTurnHex (k : Nat) : FArg (.c (.val (.st (.pair (.int .i64) (.int .i64)))) (.c (.val (.st (.pair (.int .i64) (.int .i64)))) (.c (.val (.int .i64)) .e))) := fun x K => laws_FnExactTurnHex k x.1 x.2.1 x.2.2.1 (fun (r0 : Bool) => K [⟨.bool, r0, true⟩])
theorem s_laws_FnExactTurnHex (k : Nat) : SoundF Try.prog glob 9 (ftab (.c (.val (.st (.pair (.int .i64) (.int .i64)))) (.c (.val (.st (.pair (.int .i64) (.int .i64)))) (.c (.val (.int .i64)) .e))) (F_laws_FnExactTurnHex k)) :=
  fun_ok (cx := cx_laws_FnExactTurnHex) (by kernel_rfl) ⟨types, (E_laws_eqHex_ok k).1, (E_laws_eqHex_ok k).2, mixed, rfl⟩ Try.func9 rfl (LoopsOK.nil) [] (by kernel_rfl) (fun x K => by kernel_rfl)
def E_laws_FnExactTurnHex (k : Nat) : Tbl := tcons 9 (ftab (.c (.val (.st (.pair (.int .i64) (.int .i64)))) (.c (.val (.st (.pair (.int .i64) (.int .i64)))) (.c (.val (.int .i64)) .e))) (F_laws_FnExactTurnHex k)) (E_laws_eqHex k)
theorem E_laws_FnExactTurnHex_ok (k : Nat) : SoundE Try.prog glob (E_laws_FnExactTurnHex k) ∧ NatE (E_laws_FnExactTurnHex k) := ⟨tcons_sound (s_laws_FnExactTurnHex k) (E_laws_eqHex_ok k).1, tcons_nat (s_laws_FnExactTurnHex k) (E_laws_eqHex_ok k).2⟩
end Go.Proofs.Ytpaikmmncnigkaa.TieTurnHex
