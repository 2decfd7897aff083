import Derived.Test.YtpaikmmncnigkaaDoorEv2
import Derived.Test.YtpaikmmncnigkaaDoorLg0ATAL
import Derived.KernelRfl
import Derived.Eval
import Derived.Test.YtpaikmmncnigkaaDoorProg
import Derived.Test.YtpaikmmncnigkaaDoorChecked
set_option linter.unusedVariables false
set_option linter.unusedSimpArgs false
set_option linter.unusedSectionVars false
set_option linter.unusedVariables false
set_option maxRecDepth 100000
namespace Go.Proofs.YtpaikmmncnigkaaDoor.TieDirectionTo
open Go Go.Ev Go.Lg Go.Proofs
def tys : Nat → Option Ty := lookT [(3, (.int .i64)), (4, .bool), (23, (.st (.pair (.int .i64) (.int .i64)))), (26, (.st (.pair (.int .i64) (.int .i64)))), (38, (.sl (.int .i64))), (46, (.arr 6 (.st (.pair (.int .i64) (.int .i64)))))]
def glob : Nat → AV := fun g => bif Nat.beq g 0 then .pval (.arr 6 (.st (.pair (.int .i64) (.int .i64)))) impl_directions else .bot
theorem types : Types Tryd.prog tys := types_of (by kernel_rfl)
theorem mixed : Tryd.prog.follows .mixedOrders = true := Checked.mixed Tryd.checked
theorem e0 : SoundE Tryd.prog glob tnil ∧ NatE tnil := ⟨tnil_sound, tnil_nat⟩
/-- laws.toHex -/
def cx_laws_toHex : Cx := { N := 11, G := glob, C := tys, ad := fun d => false, wk := false }
def F_laws_toHex (k : Nat) : FArg (.c (.val (.st (.pair (.int .i64) (.int .i64)))) .e) := fun x K => laws_toHex x.1 (fun (r0 : Int × Int) => K [⟨(.st (.pair (.int .i64) (.int .i64))), r0, true⟩])
theorem s_laws_toHex (k : Nat) : SoundF Tryd.prog glob 8 (ftab (.c (.val (.st (.pair (.int .i64) (.int .i64)))) .e) (F_laws_toHex k)) :=
  fun_ok (cx := cx_laws_toHex) (by kernel_rfl) ⟨types, (e0).1, (e0).2, mixed, rfl⟩ Tryd.func8 rfl (LoopsOK.nil) [] (by kernel_rfl) (fun x K => by kernel_rfl)
def E_laws_toHex (k : Nat) : Tbl := tcons 8 (ftab (.c (.val (.st (.pair (.int .i64) (.int .i64)))) .e) (F_laws_toHex k)) (tnil)
theorem E_laws_toHex_ok (k : Nat) : SoundE Tryd.prog glob (E_laws_toHex k) ∧ NatE (E_laws_toHex k) := ⟨tcons_sound (s_laws_toHex k) (e0).1, tcons_nat (s_laws_toHex k) (e0).2⟩
/-- spec.l1In -/
def cx_spec_l1In : Cx := { N := 15, G := glob, C := tys, ad := fun d => false, wk := false }
def F_spec_l1In (k : Nat) : FArg (.c (.val (.int .i64)) (.c (.val (.int .i64)) (.c (.val (.int .i64)) .e))) := fun x K => spec_l1In x.1 x.2.1 x.2.2.1 (fun (r0 : Bool) => K [⟨.bool, r0, true⟩])
theorem s_spec_l1In (k : Nat) : SoundF Tryd.prog glob 27 (ftab (.c (.val (.int .i64)) (.c (.val (.int .i64)) (.c (.val (.int .i64)) .e))) (F_spec_l1In k)) :=
  fun_ok (cx := cx_spec_l1In) (by kernel_rfl) ⟨types, (E_laws_toHex_ok k).1, (E_laws_toHex_ok k).2, mixed, rfl⟩ Tryd.func27 rfl (LoopsOK.nil) [] (by kernel_rfl) (fun x K => by kernel_rfl)
def E_spec_l1In (k : Nat) : Tbl := tcons 27 (ftab (.c (.val (.int .i64)) (.c (.val (.int .i64)) (.c (.val (.int .i64)) .e))) (F_spec_l1In k)) (E_laws_toHex k)
theorem E_spec_l1In_ok (k : Nat) : SoundE Tryd.prog glob (E_spec_l1In k) ∧ NatE (E_spec_l1In k) := ⟨tcons_sound (s_spec_l1In k) (E_laws_toHex_ok k).1, tcons_nat (s_spec_l1In k) (E_laws_toHex_ok k).2⟩
/-- spec.hGood -/
def cx_spec_hGood : Cx := { N := 11, G := glob, C := tys, ad := fun d => false, wk := false }
def F_spec_hGood (k : Nat) : FArg (.c (.val (.st (.pair (.int .i64) (.int .i64)))) .e) := fun x K => spec_hGood x.1 (fun (r0 : Bool) => K [⟨.bool, r0, true⟩])
theorem s_spec_hGood (k : Nat) : SoundF Tryd.prog glob 23 (ftab (.c (.val (.st (.pair (.int .i64) (.int .i64)))) .e) (F_spec_hGood k)) :=
  fun_ok (cx := cx_spec_hGood) (by kernel_rfl) ⟨types, (E_spec_l1In_ok k).1, (E_spec_l1In_ok k).2, mixed, rfl⟩ Tryd.func23 rfl (LoopsOK.nil) [] (by kernel_rfl) (fun x K => by kernel_rfl)
def E_spec_hGood (k : Nat) : Tbl := tcons 23 (ftab (.c (.val (.st (.pair (.int .i64) (.int .i64)))) .e) (F_spec_hGood k)) (E_spec_l1In k)
theorem E_spec_hGood_ok (k : Nat) : SoundE Tryd.prog glob (E_spec_hGood k) ∧ NatE (E_spec_hGood k) := ⟨tcons_sound (s_spec_hGood k) (E_spec_l1In_ok k).1, tcons_nat (s_spec_hGood k) (E_spec_l1In_ok k).2⟩
/-- spec.hStep -/
def cx_spec_hStep : Cx := { N := 20, G := glob, C := tys, ad := fun d => false, wk := false }
def F_spec_hStep (k : Nat) : FArg (.c (.val (.st (.pair (.int .i64) (.int .i64)))) (.c (.val (.int .i64)) .e)) := fun x K => spec_hStep x.1 x.2.1 (fun (r0 : Int × Int) => K [⟨(.st (.pair (.int .i64) (.int .i64))), r0, true⟩])
theorem s_spec_hStep (k : Nat) : SoundF Tryd.prog glob 24 (ftab (.c (.val (.st (.pair (.int .i64) (.int .i64)))) (.c (.val (.int .i64)) .e)) (F_spec_hStep k)) :=
  fun_ok (cx := cx_spec_hStep) (by kernel_rfl) ⟨types, (E_spec_hGood_ok k).1, (E_spec_hGood_ok k).2, mixed, rfl⟩ Tryd.func24 rfl (LoopsOK.nil) [] (by kernel_rfl) (fun x K => by kernel_rfl)
def E_spec_hStep (k : Nat) : Tbl := tcons 24 (ftab (.c (.val (.st (.pair (.int .i64) (.int .i64)))) (.c (.val (.int .i64)) .e)) (F_spec_hStep k)) (E_spec_hGood k)
theorem E_spec_hStep_ok (k : Nat) : SoundE Tryd.prog glob (E_spec_hStep k) ∧ NatE (E_spec_hStep k) := ⟨tcons_sound (s_spec_hStep k) (E_spec_hGood_ok k).1, tcons_nat (s_spec_hStep k) (E_spec_hGood_ok k).2⟩
/-- spec.DirectionTo -/
def cx_spec_DirectionTo : Cx := { N := 25, G := glob, C := tys, ad := fun d => false, wk := false }
def sp_spec_DirectionTo_l0 : LSp where
  cv := []
  ts := [(2, .ptr 2), (3, .ptr 3), (6, .val (.int .i64))]
  ids := [(2, .box (.st (.pair (.int .i64) (.int .i64))) (.val (.st (.pair (.int .i64) (.int .i64))))), (3, .box (.st (.pair (.int .i64) (.int .i64))) (.val (.st (.pair (.int .i64) (.int .i64)))))]
  tx := fun e => match e with | .exit i => bif Nat.beq i 0 then [] else [] | .ret => [4, 5] | .normal => []
  ix := fun e => match e with | .exit i => bif Nat.beq i 0 then [] else [] | .ret => [] | .normal => []
def F_spec_DirectionTo_l0 (k : Nat) : LArg sp_spec_DirectionTo_l0 := fun K n x y => spec_DirectionTo_l0 k (K (.exit 0) (mkSt [] [])) (fun (y0 : Int) (y1 : Bool) => K (.ret) (mkSt [(4, .val (.int .i64) y0), (5, .val .bool y1)] [])) n x.2.2.1 y.1 y.2.1
def LO_spec_DirectionTo_l0 (k : Nat) : LTbl := (lcons 4 (ltab sp_spec_DirectionTo_l0 (F_spec_DirectionTo_l0 k) k) lnil)
theorem lk_spec_DirectionTo_l0 (k : Nat) : LoopsOK Tryd.prog glob (E_spec_hStep k) cx_spec_DirectionTo (LO_spec_DirectionTo_l0 k) ((4, (loopB Tryd.f7 4)) :: []) :=
  LoopsOK.cons (LoopsOK.nil) (E_spec_hStep_ok k).2 (F := F_spec_DirectionTo_l0 k) k [] (by kernel_rfl) (by kernel_rfl) (fun K x y => rfl) (fun n x y K => by kernel_rfl)
def F_spec_DirectionTo (k : Nat) : FArg (.c (.val (.st (.pair (.int .i64) (.int .i64)))) (.c (.val (.st (.pair (.int .i64) (.int .i64)))) .e)) := fun x K => spec_DirectionTo k x.1 x.2.1 (fun (r0 : Int) (r1 : Bool) => K [⟨(.int .i64), r0, true⟩, ⟨.bool, r1, true⟩])
theorem s_spec_DirectionTo (k : Nat) : SoundF Tryd.prog glob 7 (ftab (.c (.val (.st (.pair (.int .i64) (.int .i64)))) (.c (.val (.st (.pair (.int .i64) (.int .i64)))) .e)) (F_spec_DirectionTo k)) :=
  fun_ok (cx := cx_spec_DirectionTo) (by kernel_rfl) ⟨types, (E_spec_hStep_ok k).1, (E_spec_hStep_ok k).2, mixed, rfl⟩ Tryd.func7 rfl (lk_spec_DirectionTo_l0 k) [0] (by kernel_rfl) (fun x K => by kernel_rfl)
def E_spec_DirectionTo (k : Nat) : Tbl := tcons 7 (ftab (.c (.val (.st (.pair (.int .i64) (.int .i64)))) (.c (.val (.st (.pair (.int .i64) (.int .i64)))) .e)) (F_spec_DirectionTo k)) (E_spec_hStep k)
theorem E_spec_DirectionTo_ok (k : Nat) : SoundE Tryd.prog glob (E_spec_DirectionTo k) ∧ NatE (E_spec_DirectionTo k) := ⟨tcons_sound (s_spec_DirectionTo k) (E_spec_hStep_ok k).1, tcons_nat (s_spec_DirectionTo k) (E_spec_hStep_ok k).2⟩
/-- impl.inRange -/
def cx_impl_inRange : Cx := { N := 15, G := glob, C := tys, ad := fun d => false, wk := false }
def F_impl_inRange (k : Nat) : FArg (.c (.val (.int .i64)) (.c (.val (.int .i64)) (.c (.val (.int .i64)) .e))) := fun x K => impl_inRange x.1 x.2.1 x.2.2.1 (fun (r0 : Bool) => K [⟨.bool, r0, true⟩])
theorem s_impl_inRange (k : Nat) : SoundF Tryd.prog glob 33 (ftab (.c (.val (.int .i64)) (.c (.val (.int .i64)) (.c (.val (.int .i64)) .e))) (F_impl_inRange k)) :=
  fun_ok (cx := cx_impl_inRange) (by kernel_rfl) ⟨types, (E_spec_DirectionTo_ok k).1, (E_spec_DirectionTo_ok k).2, mixed, rfl⟩ Tryd.func33 rfl (LoopsOK.nil) [] (by kernel_rfl) (fun x K => by kernel_rfl)
def E_impl_inRange (k : Nat) : Tbl := tcons 33 (ftab (.c (.val (.int .i64)) (.c (.val (.int .i64)) (.c (.val (.int .i64)) .e))) (F_impl_inRange k)) (E_spec_DirectionTo k)
theorem E_impl_inRange_ok (k : Nat) : SoundE Tryd.prog glob (E_impl_inRange k) ∧ NatE (E_impl_inRange k) := ⟨tcons_sound (s_impl_inRange k) (E_spec_DirectionTo_ok k).1, tcons_nat (s_impl_inRange k) (E_spec_DirectionTo_ok k).2⟩
/-- impl.IsHex -/
def cx_impl_IsHex : Cx := { N := 11, G := glob, C := tys, ad := fun d => false, wk := false }
def F_impl_IsHex (k : Nat) : FArg (.c (.val (.st (.pair (.int .i64) (.int .i64)))) .e) := fun x K => impl_IsHex x.1 (fun (r0 : Bool) => K [⟨.bool, r0, true⟩])
theorem s_impl_IsHex (k : Nat) : SoundF Tryd.prog glob 25 (ftab (.c (.val (.st (.pair (.int .i64) (.int .i64)))) .e) (F_impl_IsHex k)) :=
  fun_ok (cx := cx_impl_IsHex) (by kernel_rfl) ⟨types, (E_impl_inRange_ok k).1, (E_impl_inRange_ok k).2, mixed, rfl⟩ Tryd.func25 rfl (LoopsOK.nil) [] (by kernel_rfl) (fun x K => by kernel_rfl)
def E_impl_IsHex (k : Nat) : Tbl := tcons 25 (ftab (.c (.val (.st (.pair (.int .i64) (.int .i64)))) .e) (F_impl_IsHex k)) (E_impl_inRange k)
theorem E_impl_IsHex_ok (k : Nat) : SoundE Tryd.prog glob (E_impl_IsHex k) ∧ NatE (E_impl_IsHex k) := ⟨tcons_sound (s_impl_IsHex k) (E_impl_inRange_ok k).1, tcons_nat (s_impl_IsHex k) (E_impl_inRange_ok k).2⟩
/-- impl.stepBy -/
def cx_impl_stepBy : Cx := { N := 26, G := glob, C := tys, ad := fun d => false, wk := false }
def F_impl_stepBy (k : Nat) : FArg (.c (.val (.st (.pair (.int .i64) (.int .i64)))) (.c (.val (.int .i64)) (.c (.val (.int .i64)) .e))) := fun x K => impl_stepBy x.1 x.2.1 x.2.2.1 (fun (r0 : Int × Int) => K [⟨(.st (.pair (.int .i64) (.int .i64))), r0, true⟩])
theorem s_impl_stepBy (k : Nat) : SoundF Tryd.prog glob 26 (ftab (.c (.val (.st (.pair (.int .i64) (.int .i64)))) (.c (.val (.int .i64)) (.c (.val (.int .i64)) .e))) (F_impl_stepBy k)) :=
  fun_ok (cx := cx_impl_stepBy) (by kernel_rfl) ⟨types, (E_impl_IsHex_ok k).1, (E_impl_IsHex_ok k).2, mixed, rfl⟩ Tryd.func26 rfl (LoopsOK.nil) [] (by kernel_rfl) (fun x K => by kernel_rfl)
def E_impl_stepBy (k : Nat) : Tbl := tcons 26 (ftab (.c (.val (.st (.pair (.int .i64) (.int .i64)))) (.c (.val (.int .i64)) (.c (.val (.int .i64)) .e))) (F_impl_stepBy k)) (E_impl_IsHex k)
theorem E_impl_stepBy_ok (k : Nat) : SoundE Tryd.prog glob (E_impl_stepBy k) ∧ NatE (E_impl_stepBy k) := ⟨tcons_sound (s_impl_stepBy k) (E_impl_IsHex_ok k).1, tcons_nat (s_impl_stepBy k) (E_impl_IsHex_ok k).2⟩
/-- impl.DirectionTo -/
def cx_impl_DirectionTo : Cx := { N := 25, G := glob, C := tys, ad := fun d => false, wk := false }
def sp_impl_DirectionTo_l0 : LSp where
  cv := []
  ts := [(2, .ptr 2), (3, .ptr 3), (15, .val (.int .i64))]
  ids := [(2, .box (.st (.pair (.int .i64) (.int .i64))) (.val (.st (.pair (.int .i64) (.int .i64))))), (3, .box (.st (.pair (.int .i64) (.int .i64))) (.val (.st (.pair (.int .i64) (.int .i64)))))]
  tx := fun e => match e with | .exit i => bif Nat.beq i 0 then [] else [] | .ret => [4, 5] | .normal => []
  ix := fun e => match e with | .exit i => bif Nat.beq i 0 then [] else [] | .ret => [] | .normal => []
def F_impl_DirectionTo_l0 (k : Nat) : LArg sp_impl_DirectionTo_l0 := fun K n x y => impl_DirectionTo_l0 k (K (.exit 0) (mkSt [] [])) (fun (y0 : Int) (y1 : Bool) => K (.ret) (mkSt [(4, .val (.int .i64) y0), (5, .val .bool y1)] [])) n x.2.2.1 y.1 y.2.1
def LO_impl_DirectionTo_l0 (k : Nat) : LTbl := (lcons 4 (ltab sp_impl_DirectionTo_l0 (F_impl_DirectionTo_l0 k) k) lnil)
theorem lk_impl_DirectionTo_l0 (k : Nat) : LoopsOK Tryd.prog glob (E_impl_stepBy k) cx_impl_DirectionTo (LO_impl_DirectionTo_l0 k) ((4, (loopB Tryd.f9 4)) :: []) :=
  LoopsOK.cons (LoopsOK.nil) (E_impl_stepBy_ok k).2 (F := F_impl_DirectionTo_l0 k) k [] (by kernel_rfl) (by kernel_rfl) (fun K x y => rfl) (fun n x y K => by kernel_rfl)
def F_impl_DirectionTo (k : Nat) : FArg (.c (.val (.st (.pair (.int .i64) (.int .i64)))) (.c (.val (.st (.pair (.int .i64) (.int .i64)))) .e)) := fun x K => impl_DirectionTo k x.1 x.2.1 (fun (r0 : Int) (r1 : Bool) => K [⟨(.int .i64), r0, true⟩, ⟨.bool, r1, true⟩])
theorem s_impl_DirectionTo (k : Nat) : SoundF Tryd.prog glob 9 (ftab (.c (.val (.st (.pair (.int .i64) (.int .i64)))) (.c (.val (.st (.pair (.int .i64) (.int .i64)))) .e)) (F_impl_DirectionTo k)) :=
  fun_ok (cx := cx_impl_DirectionTo) (by kernel_rfl) ⟨types, (E_impl_stepBy_ok k).1, (E_impl_stepBy_ok k).2, mixed, rfl⟩ Tryd.func9 rfl (lk_impl_DirectionTo_l0 k) [0] (by kernel_rfl) (fun x K => by kernel_rfl)
def E_impl_DirectionTo (k : Nat) : Tbl := tcons 9 (ftab (.c (.val (.st (.pair (.int .i64) (.int .i64)))) (.c (.val (.st (.pair (.int .i64) (.int .i64)))) .e)) (F_impl_DirectionTo k)) (E_impl_stepBy k)
theorem E_impl_DirectionTo_ok (k : Nat) : SoundE Tryd.prog glob (E_impl_DirectionTo k) ∧ NatE (E_impl_DirectionTo k) := ⟨tcons_sound (s_impl_DirectionTo k) (E_impl_stepBy_ok k).1, tcons_nat (s_impl_DirectionTo k) (E_impl_stepBy_ok k).2⟩
/-- laws.FnExactDirectionTo -/
def cx_laws_FnExactDirectionTo : Cx := { N := 33, G := glob, C := tys, ad := fun d => false, wk := false }
def F_laws_FnExactDirectionTo (k : Nat) : FArg (.c (.val (.st (.pair (.int .i64) (.int .i64)))) (.c (.val (.st (.pair (.int .i64) (.int .i64)))) .e)) := fun x K => laws_FnExactDirectionTo k x.1 x.2.1 (fun (r0 : Bool) => K [⟨.bool, r0, true⟩])
theorem s_laws_FnExactDirectionTo (k : Nat) : SoundF Tryd.prog glob 3 (ftab (.c (.val (.st (.pair (.int .i64) (.int .i64)))) (.c (.val (.st (.pair (.int .i64) (.int .i64)))) .e)) (F_laws_FnExactDirectionTo k)) :=
  fun_ok (cx := cx_laws_FnExactDirectionTo) (by kernel_rfl) ⟨types, (E_impl_DirectionTo_ok k).1, (E_impl_DirectionTo_ok k).2, mixed, rfl⟩ Tryd.func3 rfl (LoopsOK.nil) [] (by kernel_rfl) (fun x K => by kernel_rfl)
def E_laws_FnExactDirectionTo (k : Nat) : Tbl := tcons 3 (ftab (.c (.val (.st (.pair (.int .i64) (.int .i64)))) (.c (.val (.st (.pair (.int .i64) (.int .i64)))) .e)) (F_laws_FnExactDirectionTo k)) (E_impl_DirectionTo k)
theorem E_laws_FnExactDirectionTo_ok (k : Nat) : SoundE Tryd.prog glob (E_laws_FnExactDirectionTo k) ∧ NatE (E_laws_FnExactDirectionTo k) := ⟨tcons_sound (s_laws_FnExactDirectionTo k) (E_impl_DirectionTo_ok k).1, tcons_nat (s_laws_FnExactDirectionTo k) (E_impl_DirectionTo_ok k).2⟩
end Go.Proofs.YtpaikmmncnigkaaDoor.TieDirectionTo
