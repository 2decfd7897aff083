import Derived.Test.YtpaikmmncnigkaaEv3
import Derived.Test.YtpaikmmncnigkaaLgDEFHTAL
import Derived.KernelRfl
import Derived.Eval
import Derived.Test.YtpaikmmncnigkaaProg
import Derived.Test.YtpaikmmncnigkaaChecked
set_option linter.unusedVariables false
set_option linter.unusedSimpArgs false
set_option linter.unusedSectionVars false
set_option linter.unusedVariables false
set_option maxRecDepth 100000
namespace Go.Proofs.Ytpaikmmncnigkaa.TieLineOf
open Go Go.Ev Go.Lg Go.Proofs
def tys : Nat → Option Ty := lookT [(3, (.int .i64)), (4, .bool), (24, (.st (.pair (.int .i64) (.int .i64)))), (26, (.st (.pair (.int .i64) (.int .i64)))), (43, (.sl (.st (.pair (.int .i64) (.int .i64))))), (51, (.sl (.sl (.st (.pair (.int .i64) (.int .i64)))))), (68, (.sl (.int .i64)))]
def glob : Nat → AV := fun g => .bot
theorem types : Types Try.prog tys := types_of (by kernel_rfl)
theorem mixed : Try.prog.follows .mixedOrders = true := Checked.mixed Try.checked
theorem e0 : SoundE Try.prog glob tnil ∧ NatE tnil := ⟨tnil_sound, tnil_nat⟩
theorem tab_cons {n : Nat} {t : FFun} {E : Tbl} (h : SoundF Try.prog glob n t) (h2 : SoundE Try.prog glob E ∧ NatE E) : SoundE Try.prog glob (tcons n t E) ∧ NatE (tcons n t E) := ⟨tcons_sound h h2.1, tcons_nat h h2.2⟩
theorem tab_consI {n m : Nat} {t : FFun} {E : Tbl} (hm : m ≠ 0) (h : SoundI Try.prog glob n m t) (h2 : SoundE Try.prog glob E ∧ NatE E) : SoundE Try.prog glob (tcons (n + 1000000 * m) t E) ∧ NatE (tcons (n + 1000000 * m) t E) := ⟨tconsI_sound hm h h2.1, tconsI_nat h h2.2⟩
/-- laws.toHex -/
def cx_laws_toHex : Cx := { N := 11, G := glob, C := tys, ad := fun d => false, wk := false, dp := true }
def F_laws_toHex (k : Nat) : FArg (.c (.val (.st (.pair (.int .i64) (.int .i64)))) .e) := fun x K => laws_toHex x.1 (fun (r0 : Int × Int) => K [⟨(.st (.pair (.int .i64) (.int .i64))), r0, true⟩])
theorem s_laws_toHex (k : Nat) : SoundF Try.prog glob 14 (ftab (.c (.val (.st (.pair (.int .i64) (.int .i64)))) .e) (F_laws_toHex k)) :=
  fun_ok (cx := cx_laws_toHex) (by kernel_rfl) ⟨types, (e0).1, (e0).2, mixed, rfl⟩ Try.func14 rfl (LoopsOK.nil) [] (by kernel_rfl) (fun x K => by kernel_rfl)
def E_laws_toHex (k : Nat) : Tbl := tcons 14 (ftab (.c (.val (.st (.pair (.int .i64) (.int .i64)))) .e) (F_laws_toHex k)) (tnil)
theorem E_laws_toHex_ok (k : Nat) : SoundE Try.prog glob (E_laws_toHex k) ∧ NatE (E_laws_toHex k) := tab_cons (s_laws_toHex k) (e0)
/-- spec.l1In -/
def cx_spec_l1In : Cx := { N := 15, G := glob, C := tys, ad := fun d => false, wk := false }
def F_spec_l1In (k : Nat) : FArg (.c (.val (.int .i64)) (.c (.val (.int .i64)) (.c (.val (.int .i64)) .e))) := fun x K => spec_l1In x.1 x.2.1 x.2.2.1 (fun (r0 : Bool) => K [⟨.bool, r0, true⟩])
theorem s_spec_l1In (k : Nat) : SoundF Try.prog glob 43 (ftab (.c (.val (.int .i64)) (.c (.val (.int .i64)) (.c (.val (.int .i64)) .e))) (F_spec_l1In k)) :=
  fun_ok (cx := cx_spec_l1In) (by kernel_rfl) ⟨types, (E_laws_toHex_ok k).1, (E_laws_toHex_ok k).2, mixed, rfl⟩ Try.func43 rfl (LoopsOK.nil) [] (by kernel_rfl) (fun x K => by kernel_rfl)
def E_spec_l1In (k : Nat) : Tbl := tcons 43 (ftab (.c (.val (.int .i64)) (.c (.val (.int .i64)) (.c (.val (.int .i64)) .e))) (F_spec_l1In k)) (E_laws_toHex k)
theorem E_spec_l1In_ok (k : Nat) : SoundE Try.prog glob (E_spec_l1In k) ∧ NatE (E_spec_l1In k) := tab_cons (s_spec_l1In k) (E_laws_toHex_ok k)
/-- spec.hGood -/
def cx_spec_hGood : Cx := { N := 11, G := glob, C := tys, ad := fun d => false, wk := false }
def F_spec_hGood (k : Nat) : FArg (.c (.val (.st (.pair (.int .i64) (.int .i64)))) .e) := fun x K => spec_hGood x.1 (fun (r0 : Bool) => K [⟨.bool, r0, true⟩])
theorem s_spec_hGood (k : Nat) : SoundF Try.prog glob 41 (ftab (.c (.val (.st (.pair (.int .i64) (.int .i64)))) .e) (F_spec_hGood k)) :=
  fun_ok (cx := cx_spec_hGood) (by kernel_rfl) ⟨types, (E_spec_l1In_ok k).1, (E_spec_l1In_ok k).2, mixed, rfl⟩ Try.func41 rfl (LoopsOK.nil) [] (by kernel_rfl) (fun x K => by kernel_rfl)
def E_spec_hGood (k : Nat) : Tbl := tcons 41 (ftab (.c (.val (.st (.pair (.int .i64) (.int .i64)))) .e) (F_spec_hGood k)) (E_spec_l1In k)
theorem E_spec_hGood_ok (k : Nat) : SoundE Try.prog glob (E_spec_hGood k) ∧ NatE (E_spec_hGood k) := tab_cons (s_spec_hGood k) (E_spec_l1In_ok k)
/-- spec.l1Most -/
def cx_spec_l1Most : Cx := { N := 10, G := glob, C := tys, ad := fun d => false, wk := false }
def F_spec_l1Most (k : Nat) : FArg (.c (.val (.int .i64)) (.c (.val (.int .i64)) .e)) := fun x K => spec_l1Most x.1 x.2.1 (fun (r0 : Int) => K [⟨(.int .i64), r0, true⟩])
theorem s_spec_l1Most (k : Nat) : SoundF Try.prog glob 60 (ftab (.c (.val (.int .i64)) (.c (.val (.int .i64)) .e)) (F_spec_l1Most k)) :=
  fun_ok (cx := cx_spec_l1Most) (by kernel_rfl) ⟨types, (E_spec_hGood_ok k).1, (E_spec_hGood_ok k).2, mixed, rfl⟩ Try.func60 rfl (LoopsOK.nil) [] (by kernel_rfl) (fun x K => by kernel_rfl)
def E_spec_l1Most (k : Nat) : Tbl := tcons 60 (ftab (.c (.val (.int .i64)) (.c (.val (.int .i64)) .e)) (F_spec_l1Most k)) (E_spec_hGood k)
theorem E_spec_l1Most_ok (k : Nat) : SoundE Try.prog glob (E_spec_l1Most k) ∧ NatE (E_spec_l1Most k) := tab_cons (s_spec_l1Most k) (E_spec_hGood_ok k)
/-- spec.l1Abs -/
def cx_spec_l1Abs : Cx := { N := 7, G := glob, C := tys, ad := fun d => false, wk := false }
def F_spec_l1Abs (k : Nat) : FArg (.c (.val (.int .i64)) .e) := fun x K => spec_l1Abs x.1 (fun (r0 : Int) => K [⟨(.int .i64), r0, true⟩])
theorem s_spec_l1Abs (k : Nat) : SoundF Try.prog glob 56 (ftab (.c (.val (.int .i64)) .e) (F_spec_l1Abs k)) :=
  fun_ok (cx := cx_spec_l1Abs) (by kernel_rfl) ⟨types, (E_spec_l1Most_ok k).1, (E_spec_l1Most_ok k).2, mixed, rfl⟩ Try.func56 rfl (LoopsOK.nil) [] (by kernel_rfl) (fun x K => by kernel_rfl)
def E_spec_l1Abs (k : Nat) : Tbl := tcons 56 (ftab (.c (.val (.int .i64)) .e) (F_spec_l1Abs k)) (E_spec_l1Most k)
theorem E_spec_l1Abs_ok (k : Nat) : SoundE Try.prog glob (E_spec_l1Abs k) ∧ NatE (E_spec_l1Abs k) := tab_cons (s_spec_l1Abs k) (E_spec_l1Most_ok k)
/-- spec.hDistance -/
def cx_spec_hDistance : Cx := { N := 28, G := glob, C := tys, ad := fun d => false, wk := false }
def F_spec_hDistance (k : Nat) : FArg (.c (.val (.st (.pair (.int .i64) (.int .i64)))) (.c (.val (.st (.pair (.int .i64) (.int .i64)))) .e)) := fun x K => spec_hDistance x.1 x.2.1 (fun (r0 : Int) => K [⟨(.int .i64), r0, true⟩])
theorem s_spec_hDistance (k : Nat) : SoundF Try.prog glob 49 (ftab (.c (.val (.st (.pair (.int .i64) (.int .i64)))) (.c (.val (.st (.pair (.int .i64) (.int .i64)))) .e)) (F_spec_hDistance k)) :=
  fun_ok (cx := cx_spec_hDistance) (by kernel_rfl) ⟨types, (E_spec_l1Abs_ok k).1, (E_spec_l1Abs_ok k).2, mixed, rfl⟩ Try.func49 rfl (LoopsOK.nil) [] (by kernel_rfl) (fun x K => by kernel_rfl)
def E_spec_hDistance (k : Nat) : Tbl := tcons 49 (ftab (.c (.val (.st (.pair (.int .i64) (.int .i64)))) (.c (.val (.st (.pair (.int .i64) (.int .i64)))) .e)) (F_spec_hDistance k)) (E_spec_l1Abs k)
theorem E_spec_hDistance_ok (k : Nat) : SoundE Try.prog glob (E_spec_hDistance k) ∧ NatE (E_spec_hDistance k) := tab_cons (s_spec_hDistance k) (E_spec_l1Abs_ok k)
/-- spec.hNear -/
def cx_spec_hNear : Cx := { N := 39, G := glob, C := tys, ad := fun d => false, wk := false }
def F_spec_hNear (k : Nat) : FArg (.c (.val (.int .i64)) (.c (.val (.int .i64)) .e)) := fun x K => spec_hNear x.1 x.2.1 (fun (r0 : List Int) => K [⟨(.sl (.int .i64)), r0, true⟩])
theorem s_spec_hNear (k : Nat) : SoundF Try.prog glob 61 (ftab (.c (.val (.int .i64)) (.c (.val (.int .i64)) .e)) (F_spec_hNear k)) :=
  fun_ok (cx := cx_spec_hNear) (by kernel_rfl) ⟨types, (E_spec_hDistance_ok k).1, (E_spec_hDistance_ok k).2, mixed, rfl⟩ Try.func61 rfl (LoopsOK.nil) [] (by kernel_rfl) (fun x K => by kernel_rfl)
def E_spec_hNear (k : Nat) : Tbl := tcons 61 (ftab (.c (.val (.int .i64)) (.c (.val (.int .i64)) .e)) (F_spec_hNear k)) (E_spec_hDistance k)
theorem E_spec_hNear_ok (k : Nat) : SoundE Try.prog glob (E_spec_hNear k) ∧ NatE (E_spec_hNear k) := tab_cons (s_spec_hNear k) (E_spec_hDistance_ok k)
/-- spec.hCells -/
def cx_spec_hCells : Cx := { N := 96, G := glob, C := tys, ad := fun d => false, wk := false }
def sp_spec_hCells_l0 : LSp where
  cv := [(11, 2000011, (.st (.pair (.int .i64) (.int .i64))))]
  ts := [(3, .val (.int .i64)), (9, .val (.int .i64)), (11, .own 2000011), (46, .val (.sl (.int .i64))), (47, .val (.int .i64)), (48, .val (.int .i64))]
  ids := [(2000011, .row (.st (.pair (.int .i64) (.int .i64))))]
  tx := fun e => match e with | .exit i => bif Nat.beq i 0 then [11] else [] | .ret => [] | .normal => []
  ix := fun e => match e with | .exit i => bif Nat.beq i 0 then [2000011] else [] | .ret => [] | .normal => []
def F_spec_hCells_l0 (k : Nat) : LArg sp_spec_hCells_l0 := fun K n x y => spec_hCells_l0 k (fun (y0 : List (Int × Int)) => K (.exit 0) (mkSt [(11, .own 2000011 1)] [(2000011, some (.row (.st (.pair (.int .i64) (.int .i64))) y0))])) n x.1 x.2.1 x.2.2.2.1 x.2.2.2.2.1 x.2.2.2.2.2.1 y.1
def LO_spec_hCells_l0 (k : Nat) : LTbl := (lcons 5 (ltab sp_spec_hCells_l0 (F_spec_hCells_l0 k) k) lnil)
theorem lk_spec_hCells_l0 (k : Nat) : LoopsOK Try.prog glob (E_spec_hNear k) cx_spec_hCells (LO_spec_hCells_l0 k) ((5, (loopB Try.f58 5)) :: []) :=
  LoopsOK.cons (LoopsOK.nil) (E_spec_hNear_ok k).2 (F := F_spec_hCells_l0 k) k [] (by kernel_rfl) (by kernel_rfl) (fun K x y => rfl) (fun n x y K => by kernel_rfl)
def sp_spec_hCells_l1 : LSp where
  cv := [(11, 2000011, (.st (.pair (.int .i64) (.int .i64))))]
  ts := [(3, .val (.int .i64)), (9, .val (.int .i64)), (10, .val (.int .i64)), (11, .own 2000011), (64, .val (.sl (.int .i64))), (65, .val (.int .i64)), (66, .val (.int .i64))]
  ids := [(2000011, .row (.st (.pair (.int .i64) (.int .i64))))]
  tx := fun e => match e with | .exit i => bif Nat.beq i 2 then [11] else [] | .ret => [] | .normal => []
  ix := fun e => match e with | .exit i => bif Nat.beq i 2 then [2000011] else [] | .ret => [] | .normal => []
def F_spec_hCells_l1 (k : Nat) : LArg sp_spec_hCells_l1 := fun K n x y => spec_hCells_l1 k (fun (y0 : List (Int × Int)) => K (.exit 2) (mkSt [(11, .own 2000011 1)] [(2000011, some (.row (.st (.pair (.int .i64) (.int .i64))) y0))])) n x.1 x.2.1 x.2.2.1 x.2.2.2.2.1 x.2.2.2.2.2.1 x.2.2.2.2.2.2.1 y.1
def LO_spec_hCells_l1 (k : Nat) : LTbl := (lcons 11 (ltab sp_spec_hCells_l1 (F_spec_hCells_l1 k) k) (LO_spec_hCells_l0 k))
theorem lk_spec_hCells_l1 (k : Nat) : LoopsOK Try.prog glob (E_spec_hNear k) cx_spec_hCells (LO_spec_hCells_l1 k) ((11, (loopB Try.f58 11)) :: ((5, (loopB Try.f58 5)) :: [])) :=
  LoopsOK.cons (lk_spec_hCells_l0 k) (E_spec_hNear_ok k).2 (F := F_spec_hCells_l1 k) k [] (by kernel_rfl) (by kernel_rfl) (fun K x y => rfl) (fun n x y K => by kernel_rfl)
def F_spec_hCells (k : Nat) : FArg (.c (.val (.st (.pair (.int .i64) (.int .i64)))) (.c (.val (.st (.pair (.int .i64) (.int .i64)))) (.c (.val (.int .i64)) (.c (.val (.int .i64)) .e)))) := fun x K => spec_hCells k x.1 x.2.1 x.2.2.1 x.2.2.2.1 (fun (r0 : List (Int × Int)) => K [⟨(.sl (.st (.pair (.int .i64) (.int .i64)))), r0, true⟩])
theorem s_spec_hCells (k : Nat) : SoundF Try.prog glob 58 (ftab (.c (.val (.st (.pair (.int .i64) (.int .i64)))) (.c (.val (.st (.pair (.int .i64) (.int .i64)))) (.c (.val (.int .i64)) (.c (.val (.int .i64)) .e)))) (F_spec_hCells k)) :=
  fun_ok (cx := cx_spec_hCells) (by kernel_rfl) ⟨types, (E_spec_hNear_ok k).1, (E_spec_hNear_ok k).2, mixed, rfl⟩ Try.func58 rfl (lk_spec_hCells_l1 k) [1, 0] (by kernel_rfl) (fun x K => by kernel_rfl)
def E_spec_hCells (k : Nat) : Tbl := tcons 58 (ftab (.c (.val (.st (.pair (.int .i64) (.int .i64)))) (.c (.val (.st (.pair (.int .i64) (.int .i64)))) (.c (.val (.int .i64)) (.c (.val (.int .i64)) .e)))) (F_spec_hCells k)) (E_spec_hNear k)
theorem E_spec_hCells_ok (k : Nat) : SoundE Try.prog glob (E_spec_hCells k) ∧ NatE (E_spec_hCells k) := tab_cons (s_spec_hCells k) (E_spec_hNear_ok k)
/-- spec.hLine -/
def cx_spec_hLine : Cx := { N := 30, G := glob, C := tys, ad := fun d => false, wk := false }
def sp_spec_hLine_l0 : LSp where
  cv := [(6, 2000006, (.sl (.st (.pair (.int .i64) (.int .i64)))))]
  ts := [(2, .ptr 2), (3, .ptr 3), (5, .val (.int .i64)), (6, .own 2000006), (7, .val (.int .i64))]
  ids := [(2, .box (.st (.pair (.int .i64) (.int .i64))) (.val (.st (.pair (.int .i64) (.int .i64))))), (3, .box (.st (.pair (.int .i64) (.int .i64))) (.val (.st (.pair (.int .i64) (.int .i64))))), (2000006, .row (.sl (.st (.pair (.int .i64) (.int .i64)))))]
  tx := fun e => match e with | .exit i => bif Nat.beq i 0 then [6] else [] | .ret => [] | .normal => []
  ix := fun e => match e with | .exit i => bif Nat.beq i 0 then [2000006] else [] | .ret => [] | .normal => []
def F_spec_hLine_l0 (k : Nat) : LArg sp_spec_hLine_l0 := fun K n x y => spec_hLine_l0 k (fun (y0 : List (List (Int × Int))) => K (.exit 0) (mkSt [(6, .own 2000006 1)] [(2000006, some (.row (.sl (.st (.pair (.int .i64) (.int .i64)))) y0))])) n x.2.2.1 x.2.2.2.2.1 y.1 y.2.1 y.2.2.1
def LO_spec_hLine_l0 (k : Nat) : LTbl := (lcons 6 (ltab sp_spec_hLine_l0 (F_spec_hLine_l0 k) k) lnil)
theorem lk_spec_hLine_l0 (k : Nat) : LoopsOK Try.prog glob (E_spec_hCells k) cx_spec_hLine (LO_spec_hLine_l0 k) ((6, (loopB Try.f54 6)) :: []) :=
  LoopsOK.cons (LoopsOK.nil) (E_spec_hCells_ok k).2 (F := F_spec_hLine_l0 k) k [] (by kernel_rfl) (by kernel_rfl) (fun K x y => rfl) (fun n x y K => by kernel_rfl)
def F_spec_hLine (k : Nat) : FArg (.c (.val (.st (.pair (.int .i64) (.int .i64)))) (.c (.val (.st (.pair (.int .i64) (.int .i64)))) .e)) := fun x K => spec_hLine k x.1 x.2.1 (fun (r0 : List (List (Int × Int))) => K [⟨(.sl (.sl (.st (.pair (.int .i64) (.int .i64))))), r0, false⟩])
theorem s_spec_hLine (k : Nat) : SoundF Try.prog glob 54 (ftab (.c (.val (.st (.pair (.int .i64) (.int .i64)))) (.c (.val (.st (.pair (.int .i64) (.int .i64)))) .e)) (F_spec_hLine k)) :=
  fun_ok (cx := cx_spec_hLine) (by kernel_rfl) ⟨types, (E_spec_hCells_ok k).1, (E_spec_hCells_ok k).2, mixed, rfl⟩ Try.func54 rfl (lk_spec_hLine_l0 k) [0] (by kernel_rfl) (fun x K => by kernel_rfl)
def E_spec_hLine (k : Nat) : Tbl := tcons 54 (ftab (.c (.val (.st (.pair (.int .i64) (.int .i64)))) (.c (.val (.st (.pair (.int .i64) (.int .i64)))) .e)) (F_spec_hLine k)) (E_spec_hCells k)
theorem E_spec_hLine_ok (k : Nat) : SoundE Try.prog glob (E_spec_hLine k) ∧ NatE (E_spec_hLine k) := tab_cons (s_spec_hLine k) (E_spec_hCells_ok k)
/-- spec.LineOf -/
def cx_spec_LineOf : Cx := { N := 17, G := glob, C := tys, ad := fun d => false, wk := true }
def F_spec_LineOf (k : Nat) : FArg (.c (.val (.st (.pair (.int .i64) (.int .i64)))) (.c (.val (.st (.pair (.int .i64) (.int .i64)))) .e)) := fun x K => spec_LineOf k x.1 x.2.1 (fun (r0 : List (List (Int × Int))) (r1 : Bool) => K [⟨(.sl (.sl (.st (.pair (.int .i64) (.int .i64))))), r0, false⟩, ⟨.bool, r1, true⟩])
theorem s_spec_LineOf (k : Nat) : SoundF Try.prog glob 36 (ftab (.c (.val (.st (.pair (.int .i64) (.int .i64)))) (.c (.val (.st (.pair (.int .i64) (.int .i64)))) .e)) (F_spec_LineOf k)) :=
  fun_ok (cx := cx_spec_LineOf) (by kernel_rfl) ⟨types, (E_spec_hLine_ok k).1, (E_spec_hLine_ok k).2, mixed, rfl⟩ Try.func36 rfl (LoopsOK.nil) [] (by kernel_rfl) (fun x K => by kernel_rfl)
def E_spec_LineOf (k : Nat) : Tbl := tcons 36 (ftab (.c (.val (.st (.pair (.int .i64) (.int .i64)))) (.c (.val (.st (.pair (.int .i64) (.int .i64)))) .e)) (F_spec_LineOf k)) (E_spec_hLine k)
theorem E_spec_LineOf_ok (k : Nat) : SoundE Try.prog glob (E_spec_LineOf k) ∧ NatE (E_spec_LineOf k) := tab_cons (s_spec_LineOf k) (E_spec_hLine_ok k)
/-- impl.inRange -/
def cx_impl_inRange : Cx := { N := 15, G := glob, C := tys, ad := fun d => false, wk := false, dp := true }
def F_impl_inRange (k : Nat) : FArg (.c (.val (.int .i64)) (.c (.val (.int .i64)) (.c (.val (.int .i64)) .e))) := fun x K => impl_inRange x.1 x.2.1 x.2.2.1 (fun (r0 : Bool) => K [⟨.bool, r0, true⟩])
theorem s_impl_inRange (k : Nat) : SoundF Try.prog glob 42 (ftab (.c (.val (.int .i64)) (.c (.val (.int .i64)) (.c (.val (.int .i64)) .e))) (F_impl_inRange k)) :=
  fun_ok (cx := cx_impl_inRange) (by kernel_rfl) ⟨types, (E_spec_LineOf_ok k).1, (E_spec_LineOf_ok k).2, mixed, rfl⟩ Try.func42 rfl (LoopsOK.nil) [] (by kernel_rfl) (fun x K => by kernel_rfl)
def E_impl_inRange (k : Nat) : Tbl := tcons 42 (ftab (.c (.val (.int .i64)) (.c (.val (.int .i64)) (.c (.val (.int .i64)) .e))) (F_impl_inRange k)) (E_spec_LineOf k)
theorem E_impl_inRange_ok (k : Nat) : SoundE Try.prog glob (E_impl_inRange k) ∧ NatE (E_impl_inRange k) := tab_cons (s_impl_inRange k) (E_spec_LineOf_ok k)
/-- impl.IsHex -/
def cx_impl_IsHex : Cx := { N := 11, G := glob, C := tys, ad := fun d => Nat.beq d 5 || Nat.beq d 9, wk := false, dp := true }
def F_impl_IsHex (k : Nat) : FArg (.c (.val (.st (.pair (.int .i64) (.int .i64)))) .e) := fun x K => impl_IsHex x.1 (fun (r0 : Bool) => K [⟨.bool, r0, true⟩])
theorem s_impl_IsHex (k : Nat) : SoundF Try.prog glob 15 (ftab (.c (.val (.st (.pair (.int .i64) (.int .i64)))) .e) (F_impl_IsHex k)) :=
  fun_ok (cx := cx_impl_IsHex) (by kernel_rfl) ⟨types, (E_impl_inRange_ok k).1, (E_impl_inRange_ok k).2, mixed, rfl⟩ Try.func15 rfl (LoopsOK.nil) [] (by kernel_rfl) (fun x K => by kernel_rfl)
def E_impl_IsHex (k : Nat) : Tbl := tcons 15 (ftab (.c (.val (.st (.pair (.int .i64) (.int .i64)))) .e) (F_impl_IsHex k)) (E_impl_inRange k)
theorem E_impl_IsHex_ok (k : Nat) : SoundE Try.prog glob (E_impl_IsHex k) ∧ NatE (E_impl_IsHex k) := tab_cons (s_impl_IsHex k) (E_impl_inRange_ok k)
/-- impl.absOf -/
def cx_impl_absOf : Cx := { N := 8, G := glob, C := tys, ad := fun d => false, wk := false, dp := true }
def F_impl_absOf (k : Nat) : FArg (.c (.val (.int .i64)) .e) := fun x K => impl_absOf x.1 (fun (r0 : Int) => K [⟨(.int .i64), r0, true⟩])
theorem s_impl_absOf (k : Nat) : SoundF Try.prog glob 57 (ftab (.c (.val (.int .i64)) .e) (F_impl_absOf k)) :=
  fun_ok (cx := cx_impl_absOf) (by kernel_rfl) ⟨types, (E_impl_IsHex_ok k).1, (E_impl_IsHex_ok k).2, mixed, rfl⟩ Try.func57 rfl (LoopsOK.nil) [] (by kernel_rfl) (fun x K => by kernel_rfl)
def E_impl_absOf (k : Nat) : Tbl := tcons 57 (ftab (.c (.val (.int .i64)) .e) (F_impl_absOf k)) (E_impl_IsHex k)
theorem E_impl_absOf_ok (k : Nat) : SoundE Try.prog glob (E_impl_absOf k) ∧ NatE (E_impl_absOf k) := tab_cons (s_impl_absOf k) (E_impl_IsHex_ok k)
/-- impl.distance -/
def cx_impl_distance : Cx := { N := 28, G := glob, C := tys, ad := fun d => Nat.beq d 18 || Nat.beq d 20 || Nat.beq d 25, wk := false, dp := true }
def F_impl_distance (k : Nat) : FArg (.c (.val (.st (.pair (.int .i64) (.int .i64)))) (.c (.val (.st (.pair (.int .i64) (.int .i64)))) .e)) := fun x K => impl_distance x.1 x.2.1 (fun (r0 : Int) => K [⟨(.int .i64), r0, true⟩])
theorem s_impl_distance (k : Nat) : SoundF Try.prog glob 50 (ftab (.c (.val (.st (.pair (.int .i64) (.int .i64)))) (.c (.val (.st (.pair (.int .i64) (.int .i64)))) .e)) (F_impl_distance k)) :=
  fun_ok (cx := cx_impl_distance) (by kernel_rfl) ⟨types, (E_impl_absOf_ok k).1, (E_impl_absOf_ok k).2, mixed, rfl⟩ Try.func50 rfl (LoopsOK.nil) [] (by kernel_rfl) (fun x K => by kernel_rfl)
def E_impl_distance (k : Nat) : Tbl := tcons 50 (ftab (.c (.val (.st (.pair (.int .i64) (.int .i64)))) (.c (.val (.st (.pair (.int .i64) (.int .i64)))) .e)) (F_impl_distance k)) (E_impl_absOf k)
theorem E_impl_distance_ok (k : Nat) : SoundE Try.prog glob (E_impl_distance k) ∧ NatE (E_impl_distance k) := tab_cons (s_impl_distance k) (E_impl_absOf_ok k)
/-- impl.floorDiv -/
def cx_impl_floorDiv : Cx := { N := 16, G := glob, C := tys, ad := fun d => false, wk := false, dp := true }
def F_impl_floorDiv (k : Nat) : FArg (.c (.val (.int .i64)) (.c (.val (.int .i64)) .e)) := fun x K => impl_floorDiv x.1 x.2.1 (fun (r0 : Int) => K [⟨(.int .i64), r0, true⟩])
theorem s_impl_floorDiv (k : Nat) : SoundF Try.prog glob 62 (ftab (.c (.val (.int .i64)) (.c (.val (.int .i64)) .e)) (F_impl_floorDiv k)) :=
  fun_ok (cx := cx_impl_floorDiv) (by kernel_rfl) ⟨types, (E_impl_distance_ok k).1, (E_impl_distance_ok k).2, mixed, rfl⟩ Try.func62 rfl (LoopsOK.nil) [] (by kernel_rfl) (fun x K => by kernel_rfl)
def E_impl_floorDiv (k : Nat) : Tbl := tcons 62 (ftab (.c (.val (.int .i64)) (.c (.val (.int .i64)) .e)) (F_impl_floorDiv k)) (E_impl_distance k)
theorem E_impl_floorDiv_ok (k : Nat) : SoundE Try.prog glob (E_impl_floorDiv k) ∧ NatE (E_impl_floorDiv k) := tab_cons (s_impl_floorDiv k) (E_impl_distance_ok k)
/-- impl.nearestTo -/
def cx_impl_nearestTo : Cx := { N := 80, G := glob, C := tys, ad := fun d => Nat.beq d 17 || Nat.beq d 22 || Nat.beq d 29 || Nat.beq d 34, wk := false, dp := true }
def sp_impl_nearestTo_l0 : LSp where
  cv := []
  ts := [(0, .val (.int .i64)), (1, .val (.int .i64)), (2, .val (.int .i64)), (7, .own 14), (8, .val (.int .i64)), (9, .val (.int .i64)), (10, .val (.int .i64))]
  ids := [(14, .row (.st (.pair (.int .i64) (.int .i64))))]
  tx := fun e => match e with | .exit i => bif Nat.beq i 2 then [0, 1, 2, 7, 8, 9] else [] | .ret => [] | .normal => []
  ix := fun e => match e with | .exit i => bif Nat.beq i 2 then [14] else [] | .ret => [] | .normal => []
def F_impl_nearestTo_l0 (k : Nat) : LArg sp_impl_nearestTo_l0 := fun K n x y => impl_nearestTo_l0 k (fun (y0 : Int) (y1 : Int) (y2 : Int) (y3 : Int) (y4 : Int) (y5 : List (Int × Int)) => K (.exit 2) (mkSt [(0, .val (.int .i64) y0), (1, .val (.int .i64) y1), (2, .val (.int .i64) y2), (7, .own 14 1), (8, .val (.int .i64) y3), (9, .val (.int .i64) y4)] [(14, some (.row (.st (.pair (.int .i64) (.int .i64))) y5))])) n x.1 x.2.1 x.2.2.1 x.2.2.2.2.1 x.2.2.2.2.2.1 x.2.2.2.2.2.2.1 y.1
def LO_impl_nearestTo_l0 (k : Nat) : LTbl := (lcons 6 (ltab sp_impl_nearestTo_l0 (F_impl_nearestTo_l0 k) k) lnil)
theorem lk_impl_nearestTo_l0 (k : Nat) : LoopsOK Try.prog glob (E_impl_floorDiv k) cx_impl_nearestTo (LO_impl_nearestTo_l0 k) ((6, (loopB Try.f59 6)) :: []) :=
  LoopsOK.cons (LoopsOK.nil) (E_impl_floorDiv_ok k).2 (F := F_impl_nearestTo_l0 k) k [] (by kernel_rfl) (by kernel_rfl) (fun K x y => rfl) (fun n x y K => by kernel_rfl)
def sp_impl_nearestTo_l1 : LSp where
  cv := []
  ts := [(0, .val (.int .i64)), (1, .val (.int .i64)), (2, .val (.int .i64)), (7, .own 14), (8, .val (.int .i64)), (9, .val (.int .i64))]
  ids := [(14, .row (.st (.pair (.int .i64) (.int .i64))))]
  tx := fun e => match e with | .exit i => bif Nat.beq i 0 then [7] else [] | .ret => [] | .normal => []
  ix := fun e => match e with | .exit i => bif Nat.beq i 0 then [14] else [] | .ret => [] | .normal => []
def F_impl_nearestTo_l1 (k : Nat) : LArg sp_impl_nearestTo_l1 := fun K n x y => impl_nearestTo_l1 k (fun (y0 : List (Int × Int)) => K (.exit 0) (mkSt [(7, .own 14 1)] [(14, some (.row (.st (.pair (.int .i64) (.int .i64))) y0))])) n x.1 x.2.1 x.2.2.1 x.2.2.2.2.1 x.2.2.2.2.2.1 y.1
def LO_impl_nearestTo_l1 (k : Nat) : LTbl := (lcons 3 (ltab sp_impl_nearestTo_l1 (F_impl_nearestTo_l1 k) k) (LO_impl_nearestTo_l0 k))
theorem lk_impl_nearestTo_l1 (k : Nat) : LoopsOK Try.prog glob (E_impl_floorDiv k) cx_impl_nearestTo (LO_impl_nearestTo_l1 k) ((3, (loopB Try.f59 3)) :: ((6, (loopB Try.f59 6)) :: [])) :=
  LoopsOK.cons (lk_impl_nearestTo_l0 k) (E_impl_floorDiv_ok k).2 (F := F_impl_nearestTo_l1 k) k [0] (by kernel_rfl) (by kernel_rfl) (fun K x y => rfl) (fun n x y K => by kernel_rfl)
def F_impl_nearestTo (k : Nat) : FArg (.c (.val (.int .i64)) (.c (.val (.int .i64)) (.c (.val (.int .i64)) .e))) := fun x K => impl_nearestTo k x.1 x.2.1 x.2.2.1 (fun (r0 : List (Int × Int)) => K [⟨(.sl (.st (.pair (.int .i64) (.int .i64)))), r0, true⟩])
theorem s_impl_nearestTo (k : Nat) : SoundF Try.prog glob 59 (ftab (.c (.val (.int .i64)) (.c (.val (.int .i64)) (.c (.val (.int .i64)) .e))) (F_impl_nearestTo k)) :=
  fun_ok (cx := cx_impl_nearestTo) (by kernel_rfl) ⟨types, (E_impl_floorDiv_ok k).1, (E_impl_floorDiv_ok k).2, mixed, rfl⟩ Try.func59 rfl (lk_impl_nearestTo_l1 k) [0] (by kernel_rfl) (fun x K => by kernel_rfl)
def E_impl_nearestTo (k : Nat) : Tbl := tcons 59 (ftab (.c (.val (.int .i64)) (.c (.val (.int .i64)) (.c (.val (.int .i64)) .e))) (F_impl_nearestTo k)) (E_impl_floorDiv k)
theorem E_impl_nearestTo_ok (k : Nat) : SoundE Try.prog glob (E_impl_nearestTo k) ∧ NatE (E_impl_nearestTo k) := tab_cons (s_impl_nearestTo k) (E_impl_floorDiv_ok k)
/-- impl.lineOf -/
def cx_impl_lineOf : Cx := { N := 52, G := glob, C := tys, ad := fun d => Nat.beq d 10 || Nat.beq d 48, wk := false, dp := true }
def sp_impl_lineOf_l0 : LSp where
  cv := []
  ts := [(2, .ptr 2), (3, .ptr 3), (5, .val (.int .i64)), (6, .own 16), (7, .val (.int .i64))]
  ids := [(2, .box (.st (.pair (.int .i64) (.int .i64))) (.val (.st (.pair (.int .i64) (.int .i64))))), (3, .box (.st (.pair (.int .i64) (.int .i64))) (.val (.st (.pair (.int .i64) (.int .i64))))), (16, .deep (.sl (.st (.pair (.int .i64) (.int .i64)))))]
  tx := fun e => match e with | .exit i => bif Nat.beq i 0 then [6] else [] | .ret => [] | .normal => []
  ix := fun e => match e with | .exit i => bif Nat.beq i 0 then [16] else [] | .ret => [] | .normal => []
def F_impl_lineOf_l0 (k : Nat) : LArg sp_impl_lineOf_l0 := fun K n x y => impl_lineOf_l0 k (fun (y0 : List (List (Int × Int))) => K (.exit 0) (mkSt [(6, .own 16 1)] [(16, some (.deep (.sl (.st (.pair (.int .i64) (.int .i64)))) y0 0))])) n x.2.2.1 x.2.2.2.2.1 y.1 y.2.1 y.2.2.1
def LO_impl_lineOf_l0 (k : Nat) : LTbl := (lcons 6 (ltab sp_impl_lineOf_l0 (F_impl_lineOf_l0 k) k) lnil)
theorem lk_impl_lineOf_l0 (k : Nat) : LoopsOK Try.prog glob (E_impl_nearestTo k) cx_impl_lineOf (LO_impl_lineOf_l0 k) ((6, (loopB Try.f55 6)) :: []) :=
  LoopsOK.cons (LoopsOK.nil) (E_impl_nearestTo_ok k).2 (F := F_impl_lineOf_l0 k) k [] (by kernel_rfl) (by kernel_rfl) (fun K x y => rfl) (fun n x y K => by kernel_rfl)
def F_impl_lineOf (k : Nat) : FArg (.c (.val (.st (.pair (.int .i64) (.int .i64)))) (.c (.val (.st (.pair (.int .i64) (.int .i64)))) .e)) := fun x K => impl_lineOf k x.1 x.2.1 (fun (r0 : List (List (Int × Int))) => K [⟨(.sl (.sl (.st (.pair (.int .i64) (.int .i64))))), r0, true⟩])
theorem s_impl_lineOf (k : Nat) : SoundF Try.prog glob 55 (ftab (.c (.val (.st (.pair (.int .i64) (.int .i64)))) (.c (.val (.st (.pair (.int .i64) (.int .i64)))) .e)) (F_impl_lineOf k)) :=
  fun_ok (cx := cx_impl_lineOf) (by kernel_rfl) ⟨types, (E_impl_nearestTo_ok k).1, (E_impl_nearestTo_ok k).2, mixed, rfl⟩ Try.func55 rfl (lk_impl_lineOf_l0 k) [0] (by kernel_rfl) (fun x K => by kernel_rfl)
def E_impl_lineOf (k : Nat) : Tbl := tcons 55 (ftab (.c (.val (.st (.pair (.int .i64) (.int .i64)))) (.c (.val (.st (.pair (.int .i64) (.int .i64)))) .e)) (F_impl_lineOf k)) (E_impl_nearestTo k)
theorem E_impl_lineOf_ok (k : Nat) : SoundE Try.prog glob (E_impl_lineOf k) ∧ NatE (E_impl_lineOf k) := tab_cons (s_impl_lineOf k) (E_impl_nearestTo_ok k)
/-- impl.allHexes -/
def cx_impl_allHexes : Cx := { N := 15, G := glob, C := tys, ad := fun d => Nat.beq d 12, wk := false, dp := true }
def sp_impl_allHexes_l0 : LSp where
  cv := []
  ts := [(5, .val (.sl (.st (.pair (.int .i64) (.int .i64))))), (6, .val (.int .i64)), (7, .val (.int .i64))]
  ids := []
  tx := fun e => match e with | .exit i => bif Nat.beq i 0 then [] else [] | .ret => [2] | .normal => []
  ix := fun e => match e with | .exit i => bif Nat.beq i 0 then [] else [] | .ret => [] | .normal => []
def F_impl_allHexes_l0 (k : Nat) : LArg sp_impl_allHexes_l0 := fun K n x y => impl_allHexes_l0 k (K (.exit 0) (mkSt [] [])) (fun (y0 : Bool) => K (.ret) (mkSt [(2, .val .bool y0)] [])) n x.1 x.2.1 x.2.2.1
def LO_impl_allHexes_l0 (k : Nat) : LTbl := (lcons 2 (ltab sp_impl_allHexes_l0 (F_impl_allHexes_l0 k) k) lnil)
theorem lk_impl_allHexes_l0 (k : Nat) : LoopsOK Try.prog glob (E_impl_lineOf k) cx_impl_allHexes (LO_impl_allHexes_l0 k) ((2, (loopB Try.f51 2)) :: []) :=
  LoopsOK.cons (LoopsOK.nil) (E_impl_lineOf_ok k).2 (F := F_impl_allHexes_l0 k) k [] (by kernel_rfl) (by kernel_rfl) (fun K x y => rfl) (fun n x y K => by kernel_rfl)
def F_impl_allHexes (k : Nat) : FArg (.c (.val (.sl (.st (.pair (.int .i64) (.int .i64))))) .e) := fun x K => impl_allHexes k x.1 (fun (r0 : Bool) => K [⟨.bool, r0, true⟩])
theorem s_impl_allHexes (k : Nat) : SoundF Try.prog glob 51 (ftab (.c (.val (.sl (.st (.pair (.int .i64) (.int .i64))))) .e) (F_impl_allHexes k)) :=
  fun_ok (cx := cx_impl_allHexes) (by kernel_rfl) ⟨types, (E_impl_lineOf_ok k).1, (E_impl_lineOf_ok k).2, mixed, rfl⟩ Try.func51 rfl (lk_impl_allHexes_l0 k) [0] (by kernel_rfl) (fun x K => by kernel_rfl)
def E_impl_allHexes (k : Nat) : Tbl := tcons 51 (ftab (.c (.val (.sl (.st (.pair (.int .i64) (.int .i64))))) .e) (F_impl_allHexes k)) (E_impl_lineOf k)
theorem E_impl_allHexes_ok (k : Nat) : SoundE Try.prog glob (E_impl_allHexes k) ∧ NatE (E_impl_allHexes k) := tab_cons (s_impl_allHexes k) (E_impl_lineOf_ok k)
/-- impl.LineOf -/
def cx_impl_LineOf : Cx := { N := 31, G := glob, C := tys, ad := fun d => Nat.beq d 10 || Nat.beq d 14 || Nat.beq d 19 || Nat.beq d 27, wk := false, dp := true }
def sp_impl_LineOf_l0 : LSp where
  cv := []
  ts := [(6, .own 20000), (20, .own 20000), (21, .val (.int .i64)), (22, .val (.int .i64))]
  ids := [(20000, .deep (.sl (.st (.pair (.int .i64) (.int .i64)))))]
  tx := fun e => match e with | .exit i => bif Nat.beq i 0 then [6] else [] | .ret => [4, 5] | .normal => []
  ix := fun e => match e with | .exit i => bif Nat.beq i 0 then [20000] else [] | .ret => [] | .normal => []
def F_impl_LineOf_l0 (k : Nat) : LArg sp_impl_LineOf_l0 := fun K n x y => impl_LineOf_l0 k (fun (y0 : List (List (Int × Int))) => K (.exit 0) (mkSt [(6, .own 20000 1)] [(20000, some (.deep (.sl (.st (.pair (.int .i64) (.int .i64)))) y0 0))])) (fun (y0 : Bool) => K (.ret) (mkSt [(4, .nil), (5, .val .bool y0)] [])) n x.2.2.1 x.2.2.2.1 y.1
def LO_impl_LineOf_l0 (k : Nat) : LTbl := (lcons 5 (ltab sp_impl_LineOf_l0 (F_impl_LineOf_l0 k) k) lnil)
theorem lk_impl_LineOf_l0 (k : Nat) : LoopsOK Try.prog glob (E_impl_allHexes k) cx_impl_LineOf (LO_impl_LineOf_l0 k) ((5, (loopB Try.f37 5)) :: []) :=
  LoopsOK.cons (LoopsOK.nil) (E_impl_allHexes_ok k).2 (F := F_impl_LineOf_l0 k) k [] (by kernel_rfl) (by kernel_rfl) (fun K x y => rfl) (fun n x y K => by kernel_rfl)
def F_impl_LineOf (k : Nat) : FArg (.c (.val (.st (.pair (.int .i64) (.int .i64)))) (.c (.val (.st (.pair (.int .i64) (.int .i64)))) .e)) := fun x K => impl_LineOf k x.1 x.2.1 (fun (r0 : List (List (Int × Int))) (r1 : Bool) => K [⟨(.sl (.sl (.st (.pair (.int .i64) (.int .i64))))), r0, true⟩, ⟨.bool, r1, true⟩])
theorem s_impl_LineOf (k : Nat) : SoundF Try.prog glob 37 (ftab (.c (.val (.st (.pair (.int .i64) (.int .i64)))) (.c (.val (.st (.pair (.int .i64) (.int .i64)))) .e)) (F_impl_LineOf k)) :=
  fun_ok (cx := cx_impl_LineOf) (by kernel_rfl) ⟨types, (E_impl_allHexes_ok k).1, (E_impl_allHexes_ok k).2, mixed, rfl⟩ Try.func37 rfl (lk_impl_LineOf_l0 k) [0] (by kernel_rfl) (fun x K => by kernel_rfl)
def E_impl_LineOf (k : Nat) : Tbl := tcons 37 (ftab (.c (.val (.st (.pair (.int .i64) (.int .i64)))) (.c (.val (.st (.pair (.int .i64) (.int .i64)))) .e)) (F_impl_LineOf k)) (E_impl_allHexes k)
theorem E_impl_LineOf_ok (k : Nat) : SoundE Try.prog glob (E_impl_LineOf k) ∧ NatE (E_impl_LineOf k) := tab_cons (s_impl_LineOf k) (E_impl_allHexes_ok k)
/-- laws.eqHex -/
def cx_laws_eqHex : Cx := { N := 15, G := glob, C := tys, ad := fun d => false, wk := false }
def F_laws_eqHex (k : Nat) : FArg (.c (.val (.st (.pair (.int .i64) (.int .i64)))) (.c (.val (.st (.pair (.int .i64) (.int .i64)))) .e)) := fun x K => laws_eqHex x.1 x.2.1 (fun (r0 : Bool) => K [⟨.bool, r0, true⟩])
theorem s_laws_eqHex (k : Nat) : SoundF Try.prog glob 22 (ftab (.c (.val (.st (.pair (.int .i64) (.int .i64)))) (.c (.val (.st (.pair (.int .i64) (.int .i64)))) .e)) (F_laws_eqHex k)) :=
  fun_ok (cx := cx_laws_eqHex) (by kernel_rfl) ⟨types, (E_impl_LineOf_ok k).1, (E_impl_LineOf_ok k).2, mixed, rfl⟩ Try.func22 rfl (LoopsOK.nil) [] (by kernel_rfl) (fun x K => by kernel_rfl)
def E_laws_eqHex (k : Nat) : Tbl := tcons 22 (ftab (.c (.val (.st (.pair (.int .i64) (.int .i64)))) (.c (.val (.st (.pair (.int .i64) (.int .i64)))) .e)) (F_laws_eqHex k)) (E_impl_LineOf k)
theorem E_laws_eqHex_ok (k : Nat) : SoundE Try.prog glob (E_laws_eqHex k) ∧ NatE (E_laws_eqHex k) := tab_cons (s_laws_eqHex k) (E_impl_LineOf_ok k)
/-- laws.eqHexS -/
def cx_laws_eqHexS : Cx := { N := 27, G := glob, C := tys, ad := fun d => false, wk := false }
def sp_laws_eqHexS_l0 : LSp where
  cv := []
  ts := [(0, .val (.sl (.st (.pair (.int .i64) (.int .i64))))), (1, .val (.sl (.st (.pair (.int .i64) (.int .i64))))), (5, .val (.int .i64))]
  ids := []
  tx := fun e => match e with | .exit i => bif Nat.beq i 0 then [] else [] | .ret => [4] | .normal => []
  ix := fun e => match e with | .exit i => bif Nat.beq i 0 then [] else [] | .ret => [] | .normal => []
def F_laws_eqHexS_l0 (k : Nat) : LArg sp_laws_eqHexS_l0 := fun K n x y => laws_eqHexS_l0 k (K (.exit 0) (mkSt [] [])) (fun (y0 : Bool) => K (.ret) (mkSt [(4, .val .bool y0)] [])) n x.1 x.2.1 x.2.2.1
def LO_laws_eqHexS_l0 (k : Nat) : LTbl := (lcons 4 (ltab sp_laws_eqHexS_l0 (F_laws_eqHexS_l0 k) k) lnil)
theorem lk_laws_eqHexS_l0 (k : Nat) : LoopsOK Try.prog glob (E_laws_eqHex k) cx_laws_eqHexS (LO_laws_eqHexS_l0 k) ((4, (loopB Try.f31 4)) :: []) :=
  LoopsOK.cons (LoopsOK.nil) (E_laws_eqHex_ok k).2 (F := F_laws_eqHexS_l0 k) k [] (by kernel_rfl) (by kernel_rfl) (fun K x y => rfl) (fun n x y K => by kernel_rfl)
def F_laws_eqHexS (k : Nat) : FArg (.c (.val (.sl (.st (.pair (.int .i64) (.int .i64))))) (.c (.val (.sl (.st (.pair (.int .i64) (.int .i64))))) .e)) := fun x K => laws_eqHexS k x.1 x.2.1 (fun (r0 : Bool) => K [⟨.bool, r0, true⟩])
theorem s_laws_eqHexS (k : Nat) : SoundF Try.prog glob 31 (ftab (.c (.val (.sl (.st (.pair (.int .i64) (.int .i64))))) (.c (.val (.sl (.st (.pair (.int .i64) (.int .i64))))) .e)) (F_laws_eqHexS k)) :=
  fun_ok (cx := cx_laws_eqHexS) (by kernel_rfl) ⟨types, (E_laws_eqHex_ok k).1, (E_laws_eqHex_ok k).2, mixed, rfl⟩ Try.func31 rfl (lk_laws_eqHexS_l0 k) [0] (by kernel_rfl) (fun x K => by kernel_rfl)
def E_laws_eqHexS (k : Nat) : Tbl := tcons 31 (ftab (.c (.val (.sl (.st (.pair (.int .i64) (.int .i64))))) (.c (.val (.sl (.st (.pair (.int .i64) (.int .i64))))) .e)) (F_laws_eqHexS k)) (E_laws_eqHex k)
theorem E_laws_eqHexS_ok (k : Nat) : SoundE Try.prog glob (E_laws_eqHexS k) ∧ NatE (E_laws_eqHexS k) := tab_cons (s_laws_eqHexS k) (E_laws_eqHex_ok k)
/-- laws.eqHexSS -/
def cx_laws_eqHexSS : Cx := { N := 27, G := glob, C := tys, ad := fun d => false, wk := false }
def sp_laws_eqHexSS_l0 : LSp where
  cv := []
  ts := [(0, .val (.sl (.sl (.st (.pair (.int .i64) (.int .i64)))))), (1, .val (.sl (.sl (.st (.pair (.int .i64) (.int .i64)))))), (5, .val (.int .i64))]
  ids := []
  tx := fun e => match e with | .exit i => bif Nat.beq i 0 then [] else [] | .ret => [4] | .normal => []
  ix := fun e => match e with | .exit i => bif Nat.beq i 0 then [] else [] | .ret => [] | .normal => []
def F_laws_eqHexSS_l0 (k : Nat) : LArg sp_laws_eqHexSS_l0 := fun K n x y => laws_eqHexSS_l0 k (K (.exit 0) (mkSt [] [])) (fun (y0 : Bool) => K (.ret) (mkSt [(4, .val .bool y0)] [])) n x.1 x.2.1 x.2.2.1
def LO_laws_eqHexSS_l0 (k : Nat) : LTbl := (lcons 4 (ltab sp_laws_eqHexSS_l0 (F_laws_eqHexSS_l0 k) k) lnil)
theorem lk_laws_eqHexSS_l0 (k : Nat) : LoopsOK Try.prog glob (E_laws_eqHexS k) cx_laws_eqHexSS (LO_laws_eqHexSS_l0 k) ((4, (loopB Try.f38 4)) :: []) :=
  LoopsOK.cons (LoopsOK.nil) (E_laws_eqHexS_ok k).2 (F := F_laws_eqHexSS_l0 k) k [] (by kernel_rfl) (by kernel_rfl) (fun K x y => rfl) (fun n x y K => by kernel_rfl)
def F_laws_eqHexSS (k : Nat) : FArg (.c (.val (.sl (.sl (.st (.pair (.int .i64) (.int .i64)))))) (.c (.val (.sl (.sl (.st (.pair (.int .i64) (.int .i64)))))) .e)) := fun x K => laws_eqHexSS k x.1 x.2.1 (fun (r0 : Bool) => K [⟨.bool, r0, true⟩])
theorem s_laws_eqHexSS (k : Nat) : SoundF Try.prog glob 38 (ftab (.c (.val (.sl (.sl (.st (.pair (.int .i64) (.int .i64)))))) (.c (.val (.sl (.sl (.st (.pair (.int .i64) (.int .i64)))))) .e)) (F_laws_eqHexSS k)) :=
  fun_ok (cx := cx_laws_eqHexSS) (by kernel_rfl) ⟨types, (E_laws_eqHexS_ok k).1, (E_laws_eqHexS_ok k).2, mixed, rfl⟩ Try.func38 rfl (lk_laws_eqHexSS_l0 k) [0] (by kernel_rfl) (fun x K => by kernel_rfl)
def E_laws_eqHexSS (k : Nat) : Tbl := tcons 38 (ftab (.c (.val (.sl (.sl (.st (.pair (.int .i64) (.int .i64)))))) (.c (.val (.sl (.sl (.st (.pair (.int .i64) (.int .i64)))))) .e)) (F_laws_eqHexSS k)) (E_laws_eqHexS k)
theorem E_laws_eqHexSS_ok (k : Nat) : SoundE Try.prog glob (E_laws_eqHexSS k) ∧ NatE (E_laws_eqHexSS k) := tab_cons (s_laws_eqHexSS k) (E_laws_eqHexS_ok k)
/-- laws.markHexS -/
def cx_laws_markHexS_in : Cx := { N := 27, G := glob, C := tys, ad := fun d => false, wk := true, dp := true }
def sp_laws_markHexS_in_l0 : LSp where
  cv := []
  ts := [(0, .own 3000000), (1, .val (.int .i64)), (5, .val (.int .i64))]
  ids := [(3000000, .row (.st (.pair (.int .i64) (.int .i64))))]
  tx := fun e => match e with | .exit i => bif Nat.beq i 0 then [1] else [] | .ret => [] | .normal => []
  ix := fun e => match e with | .exit i => bif Nat.beq i 0 then [3000000] else [] | .ret => [] | .normal => []
def F_laws_markHexS_in_l0 (k : Nat) : LArg sp_laws_markHexS_in_l0 := fun K n x y => laws_markHexS_in_l0 k (fun (y0 : Int) (y1 : List (Int × Int)) => K (.exit 0) (mkSt [(1, .val (.int .i64) y0)] [(3000000, some (.row (.st (.pair (.int .i64) (.int .i64))) y1))])) n x.2.1 x.2.2.1 y.1
def LO_laws_markHexS_in_l0 (k : Nat) : LTbl := (lcons 2 (ltab sp_laws_markHexS_in_l0 (F_laws_markHexS_in_l0 k) k) lnil)
theorem lk_laws_markHexS_in_l0 (k : Nat) : LoopsOK Try.prog glob (E_laws_eqHexSS k) cx_laws_markHexS_in (LO_laws_markHexS_in_l0 k) ((2, (loopB Try.f34 2)) :: []) :=
  LoopsOK.cons (LoopsOK.nil) (E_laws_eqHexSS_ok k).2 (F := F_laws_markHexS_in_l0 k) k [] (by kernel_rfl) (by kernel_rfl) (fun K x y => rfl) (fun n x y K => by kernel_rfl)
def F_laws_markHexS_in (k : Nat) : FArg (.c (.val (.sl (.st (.pair (.int .i64) (.int .i64))))) (.c (.val (.int .i64)) .e)) := fun x K => laws_markHexS_in k x.1 x.2.1 (fun (r0 : List (Int × Int)) (r1 : Int) => K [⟨(.sl (.st (.pair (.int .i64) (.int .i64)))), r0, false⟩, ⟨(.int .i64), r1, true⟩])
theorem s_laws_markHexS_in (k : Nat) : SoundI Try.prog glob 34 1 (ftab (.c (.val (.sl (.st (.pair (.int .i64) (.int .i64))))) (.c (.val (.int .i64)) .e)) (F_laws_markHexS_in k)) :=
  funI_ok (m := 1) (cx := cx_laws_markHexS_in) (by kernel_rfl) ⟨types, (E_laws_eqHexSS_ok k).1, (E_laws_eqHexSS_ok k).2, mixed, rfl⟩ Try.func34 rfl (lk_laws_markHexS_in_l0 k) [0] (by kernel_rfl) (fun x K => by kernel_rfl)
def E_laws_markHexS_in (k : Nat) : Tbl := tcons (34 + 1000000 * 1) (ftab (.c (.val (.sl (.st (.pair (.int .i64) (.int .i64))))) (.c (.val (.int .i64)) .e)) (F_laws_markHexS_in k)) (E_laws_eqHexSS k)
theorem E_laws_markHexS_in_ok (k : Nat) : SoundE Try.prog glob (E_laws_markHexS_in k) ∧ NatE (E_laws_markHexS_in k) := tab_consI (by decide) (s_laws_markHexS_in k) (E_laws_eqHexSS_ok k)
/-- laws.markHexSS -/
def cx_laws_markHexSS_in : Cx := { N := 19, G := glob, C := tys, ad := fun d => false, wk := true, ip := fun d => bif Nat.beq d 34 then 1 else 0, dp := true }
def sp_laws_markHexSS_in_l0 : LSp where
  cv := []
  ts := [(0, .own 3000000), (1, .val (.int .i64)), (5, .val (.int .i64))]
  ids := [(3000000, .deep (.sl (.st (.pair (.int .i64) (.int .i64)))))]
  tx := fun e => match e with | .exit i => bif Nat.beq i 0 then [1] else [] | .ret => [] | .normal => []
  ix := fun e => match e with | .exit i => bif Nat.beq i 0 then [3000000] else [] | .ret => [] | .normal => []
def F_laws_markHexSS_in_l0 (k : Nat) : LArg sp_laws_markHexSS_in_l0 := fun K n x y => laws_markHexSS_in_l0 k (fun (y0 : Int) (y1 : List (List (Int × Int))) => K (.exit 0) (mkSt [(1, .val (.int .i64) y0)] [(3000000, some (.deep (.sl (.st (.pair (.int .i64) (.int .i64)))) y1 0))])) n x.2.1 x.2.2.1 y.1
def LO_laws_markHexSS_in_l0 (k : Nat) : LTbl := (lcons 2 (ltab sp_laws_markHexSS_in_l0 (F_laws_markHexSS_in_l0 k) k) lnil)
theorem lk_laws_markHexSS_in_l0 (k : Nat) : LoopsOK Try.prog glob (E_laws_markHexS_in k) cx_laws_markHexSS_in (LO_laws_markHexSS_in_l0 k) ((2, (loopB Try.f39 2)) :: []) :=
  LoopsOK.cons (LoopsOK.nil) (E_laws_markHexS_in_ok k).2 (F := F_laws_markHexSS_in_l0 k) k [] (by kernel_rfl) (by kernel_rfl) (fun K x y => rfl) (fun n x y K => by kernel_rfl)
def F_laws_markHexSS_in (k : Nat) : FArg (.c (.val (.sl (.sl (.st (.pair (.int .i64) (.int .i64)))))) (.c (.val (.int .i64)) .e)) := fun x K => laws_markHexSS_in k x.1 x.2.1 (fun (r0 : List (List (Int × Int))) (r1 : Int) => K [⟨(.sl (.sl (.st (.pair (.int .i64) (.int .i64))))), r0, false⟩, ⟨(.int .i64), r1, true⟩])
theorem s_laws_markHexSS_in (k : Nat) : SoundI Try.prog glob 39 1 (ftab (.c (.val (.sl (.sl (.st (.pair (.int .i64) (.int .i64)))))) (.c (.val (.int .i64)) .e)) (F_laws_markHexSS_in k)) :=
  funI_ok (m := 1) (cx := cx_laws_markHexSS_in) (by kernel_rfl) ⟨types, (E_laws_markHexS_in_ok k).1, (E_laws_markHexS_in_ok k).2, mixed, rfl⟩ Try.func39 rfl (lk_laws_markHexSS_in_l0 k) [0] (by kernel_rfl) (fun x K => by kernel_rfl)
def E_laws_markHexSS_in (k : Nat) : Tbl := tcons (39 + 1000000 * 1) (ftab (.c (.val (.sl (.sl (.st (.pair (.int .i64) (.int .i64)))))) (.c (.val (.int .i64)) .e)) (F_laws_markHexSS_in k)) (E_laws_markHexS_in k)
theorem E_laws_markHexSS_in_ok (k : Nat) : SoundE Try.prog glob (E_laws_markHexSS_in k) ∧ NatE (E_laws_markHexSS_in k) := tab_consI (by decide) (s_laws_markHexSS_in k) (E_laws_markHexS_in_ok k)
/-- laws.heldHexS -/
def cx_laws_heldHexS : Cx := { N := 31, G := glob, C := tys, ad := fun d => false, wk := false }
def sp_laws_heldHexS_l0 : LSp where
  cv := []
  ts := [(0, .val (.sl (.st (.pair (.int .i64) (.int .i64))))), (1, .val (.int .i64)), (5, .val (.int .i64))]
  ids := []
  tx := fun e => match e with | .exit i => bif Nat.beq i 0 then [1] else [] | .ret => [4] | .normal => []
  ix := fun e => match e with | .exit i => bif Nat.beq i 0 then [] else [] | .ret => [] | .normal => []
def F_laws_heldHexS_l0 (k : Nat) : LArg sp_laws_heldHexS_l0 := fun K n x y => laws_heldHexS_l0 k (fun (y0 : Int) => K (.exit 0) (mkSt [(1, .val (.int .i64) y0)] [])) (fun (y0 : Int) => K (.ret) (mkSt [(4, .val (.int .i64) y0)] [])) n x.1 x.2.1 x.2.2.1
def LO_laws_heldHexS_l0 (k : Nat) : LTbl := (lcons 2 (ltab sp_laws_heldHexS_l0 (F_laws_heldHexS_l0 k) k) lnil)
theorem lk_laws_heldHexS_l0 (k : Nat) : LoopsOK Try.prog glob (E_laws_markHexSS_in k) cx_laws_heldHexS (LO_laws_heldHexS_l0 k) ((2, (loopB Try.f35 2)) :: []) :=
  LoopsOK.cons (LoopsOK.nil) (E_laws_markHexSS_in_ok k).2 (F := F_laws_heldHexS_l0 k) k [] (by kernel_rfl) (by kernel_rfl) (fun K x y => rfl) (fun n x y K => by kernel_rfl)
def F_laws_heldHexS (k : Nat) : FArg (.c (.val (.sl (.st (.pair (.int .i64) (.int .i64))))) (.c (.val (.int .i64)) .e)) := fun x K => laws_heldHexS k x.1 x.2.1 (fun (r0 : Int) => K [⟨(.int .i64), r0, true⟩])
theorem s_laws_heldHexS (k : Nat) : SoundF Try.prog glob 35 (ftab (.c (.val (.sl (.st (.pair (.int .i64) (.int .i64))))) (.c (.val (.int .i64)) .e)) (F_laws_heldHexS k)) :=
  fun_ok (cx := cx_laws_heldHexS) (by kernel_rfl) ⟨types, (E_laws_markHexSS_in_ok k).1, (E_laws_markHexSS_in_ok k).2, mixed, rfl⟩ Try.func35 rfl (lk_laws_heldHexS_l0 k) [0] (by kernel_rfl) (fun x K => by kernel_rfl)
def E_laws_heldHexS (k : Nat) : Tbl := tcons 35 (ftab (.c (.val (.sl (.st (.pair (.int .i64) (.int .i64))))) (.c (.val (.int .i64)) .e)) (F_laws_heldHexS k)) (E_laws_markHexSS_in k)
theorem E_laws_heldHexS_ok (k : Nat) : SoundE Try.prog glob (E_laws_heldHexS k) ∧ NatE (E_laws_heldHexS k) := tab_cons (s_laws_heldHexS k) (E_laws_markHexSS_in_ok k)
/-- laws.heldHexSS -/
def cx_laws_heldHexSS : Cx := { N := 21, G := glob, C := tys, ad := fun d => false, wk := false }
def sp_laws_heldHexSS_l0 : LSp where
  cv := []
  ts := [(0, .val (.sl (.sl (.st (.pair (.int .i64) (.int .i64)))))), (1, .val (.int .i64)), (5, .val (.int .i64))]
  ids := []
  tx := fun e => match e with | .exit i => bif Nat.beq i 0 then [1] else [] | .ret => [4] | .normal => []
  ix := fun e => match e with | .exit i => bif Nat.beq i 0 then [] else [] | .ret => [] | .normal => []
def F_laws_heldHexSS_l0 (k : Nat) : LArg sp_laws_heldHexSS_l0 := fun K n x y => laws_heldHexSS_l0 k (fun (y0 : Int) => K (.exit 0) (mkSt [(1, .val (.int .i64) y0)] [])) (fun (y0 : Int) => K (.ret) (mkSt [(4, .val (.int .i64) y0)] [])) n x.1 x.2.1 x.2.2.1
def LO_laws_heldHexSS_l0 (k : Nat) : LTbl := (lcons 2 (ltab sp_laws_heldHexSS_l0 (F_laws_heldHexSS_l0 k) k) lnil)
theorem lk_laws_heldHexSS_l0 (k : Nat) : LoopsOK Try.prog glob (E_laws_heldHexS k) cx_laws_heldHexSS (LO_laws_heldHexSS_l0 k) ((2, (loopB Try.f40 2)) :: []) :=
  LoopsOK.cons (LoopsOK.nil) (E_laws_heldHexS_ok k).2 (F := F_laws_heldHexSS_l0 k) k [] (by kernel_rfl) (by kernel_rfl) (fun K x y => rfl) (fun n x y K => by kernel_rfl)
def F_laws_heldHexSS (k : Nat) : FArg (.c (.val (.sl (.sl (.st (.pair (.int .i64) (.int .i64)))))) (.c (.val (.int .i64)) .e)) := fun x K => laws_heldHexSS k x.1 x.2.1 (fun (r0 : Int) => K [⟨(.int .i64), r0, true⟩])
theorem s_laws_heldHexSS (k : Nat) : SoundF Try.prog glob 40 (ftab (.c (.val (.sl (.sl (.st (.pair (.int .i64) (.int .i64)))))) (.c (.val (.int .i64)) .e)) (F_laws_heldHexSS k)) :=
  fun_ok (cx := cx_laws_heldHexSS) (by kernel_rfl) ⟨types, (E_laws_heldHexS_ok k).1, (E_laws_heldHexS_ok k).2, mixed, rfl⟩ Try.func40 rfl (lk_laws_heldHexSS_l0 k) [0] (by kernel_rfl) (fun x K => by kernel_rfl)
def E_laws_heldHexSS (k : Nat) : Tbl := tcons 40 (ftab (.c (.val (.sl (.sl (.st (.pair (.int .i64) (.int .i64)))))) (.c (.val (.int .i64)) .e)) (F_laws_heldHexSS k)) (E_laws_heldHexS k)
theorem E_laws_heldHexSS_ok (k : Nat) : SoundE Try.prog glob (E_laws_heldHexSS k) ∧ NatE (E_laws_heldHexSS k) := tab_cons (s_laws_heldHexSS k) (E_laws_heldHexS_ok k)
/-- laws.FnExactLineOf -/
def cx_laws_FnExactLineOf : Cx := { N := 74, G := glob, C := tys, ad := fun d => Nat.beq d 17 || Nat.beq d 18 || Nat.beq d 25 || Nat.beq d 26 || Nat.beq d 31 || Nat.beq d 43 || Nat.beq d 53 || Nat.beq d 54 || Nat.beq d 59 || Nat.beq d 68, wk := false, ip := fun d => bif Nat.beq d 39 then 1 else 0, dp := true }
def F_laws_FnExactLineOf (k : Nat) : FArg (.c (.val (.st (.pair (.int .i64) (.int .i64)))) (.c (.val (.st (.pair (.int .i64) (.int .i64)))) .e)) := fun x K => laws_FnExactLineOf k x.1 x.2.1 (fun (r0 : Bool) => K [⟨.bool, r0, true⟩])
theorem q_laws_FnExactLineOf (k : Nat) (c0 : (Int × Int) → ∀ {R : Type}, ((Int × Int) → Option R) → Option R) (c1 : (Int × Int) → (Int × Int) → ∀ {R : Type}, ((List (List (Int × Int))) → Bool → Option R) → Option R) (c2 : (Int × Int) → (Int × Int) → ∀ {R : Type}, ((List (List (Int × Int))) → Bool → Option R) → Option R) (c3 : (List (List (Int × Int))) → (List (List (Int × Int))) → ∀ {R : Type}, (Bool → Option R) → Option R) (c4 : (List (List (Int × Int))) → Int → ∀ {R : Type}, ((List (List (Int × Int))) → Int → Option R) → Option R) (c5 : (List (List (Int × Int))) → Int → ∀ {R : Type}, (Int → Option R) → Option R) {R : Type} (x : ((.c (.val (.st (.pair (.int .i64) (.int .i64)))) (.c (.val (.st (.pair (.int .i64) (.int .i64)))) .e)) : Sh).den) (K : List Res → Option R) : (fun (x : Int × Int) (x0 : Int × Int) (K : Bool → Option R) =>
    c0 x fun (r : Int × Int) =>
    c0 x0 fun (r0 : Int × Int) =>
    c1 r r0 fun (r1 : List (List (Int × Int))) (r2 : Bool) =>
    c0 x fun (r3 : Int × Int) =>
    c0 x0 fun (r4 : Int × Int) =>
    c2 r3 r4 fun (r5 : List (List (Int × Int))) (r6 : Bool) =>
    c3 r5 r1 fun (r7 : Bool) =>
    bif !r7 then
      K false
    else
      bif !(r6 == r2) then
        K false
      else
        c4 r5 (1 : Int) fun (t : List (List (Int × Int))) (r8 : Int) =>
        c5 t (1 : Int) fun (r9 : Int) =>
        bif decide (r9 < (0 : Int)) then
          K false
        else
          bif !(decide (r9 = r8)) then
            K false
          else
            c0 x fun (r10 : Int × Int) =>
            c0 x0 fun (r11 : Int × Int) =>
            c2 r10 r11 fun (r12 : List (List (Int × Int))) (r13 : Bool) =>
            c3 r12 r1 fun (r14 : Bool) =>
            bif !r14 then
              K false
            else
              bif !(r13 == r2) then
                K false
              else
                c5 t (1 : Int) fun (r15 : Int) =>
                bif decide (r15 < (0 : Int)) then
                  K false
                else
                  bif !(decide (r15 = r8)) then
                    K false
                  else
                    K true) x.1 x.2.1 (fun (r0 : Bool) => K [⟨.bool, r0, true⟩]) = evFun ((tcons 14 (ftab (.c (.val (.st (.pair (.int .i64) (.int .i64)))) .e) fun x K => c0 x.1 (fun (r0 : Int × Int) => K [⟨(.st (.pair (.int .i64) (.int .i64))), r0, true⟩])) (tcons 36 (ftab (.c (.val (.st (.pair (.int .i64) (.int .i64)))) (.c (.val (.st (.pair (.int .i64) (.int .i64)))) .e)) fun x K => c1 x.1 x.2.1 (fun (r0 : List (List (Int × Int))) (r1 : Bool) => K [⟨(.sl (.sl (.st (.pair (.int .i64) (.int .i64))))), r0, false⟩, ⟨.bool, r1, true⟩])) (tcons 37 (ftab (.c (.val (.st (.pair (.int .i64) (.int .i64)))) (.c (.val (.st (.pair (.int .i64) (.int .i64)))) .e)) fun x K => c2 x.1 x.2.1 (fun (r0 : List (List (Int × Int))) (r1 : Bool) => K [⟨(.sl (.sl (.st (.pair (.int .i64) (.int .i64))))), r0, true⟩, ⟨.bool, r1, true⟩])) (tcons 38 (ftab (.c (.val (.sl (.sl (.st (.pair (.int .i64) (.int .i64)))))) (.c (.val (.sl (.sl (.st (.pair (.int .i64) (.int .i64)))))) .e)) fun x K => c3 x.1 x.2.1 (fun (r0 : Bool) => K [⟨.bool, r0, true⟩])) (tcons (39 + 1000000 * 1) (ftab (.c (.val (.sl (.sl (.st (.pair (.int .i64) (.int .i64)))))) (.c (.val (.int .i64)) .e)) fun x K => c4 x.1 x.2.1 (fun (r0 : List (List (Int × Int))) (r1 : Int) => K [⟨(.sl (.sl (.st (.pair (.int .i64) (.int .i64))))), r0, false⟩, ⟨(.int .i64), r1, true⟩])) (tcons 40 (ftab (.c (.val (.sl (.sl (.st (.pair (.int .i64) (.int .i64)))))) (.c (.val (.int .i64)) .e)) fun x K => c5 x.1 x.2.1 (fun (r0 : Int) => K [⟨(.int .i64), r0, true⟩])) tnil))))))) lnil cx_laws_FnExactLineOf Try.f12 (give (.c (.val (.st (.pair (.int .i64) (.int .i64)))) (.c (.val (.st (.pair (.int .i64) (.int .i64)))) .e)) x) K := by kernel_rfl
theorem e_laws_FnExactLineOf (k : Nat) : SoundE Try.prog glob (tcons 14 (ftab (.c (.val (.st (.pair (.int .i64) (.int .i64)))) .e) (F_laws_toHex k)) (tcons 36 (ftab (.c (.val (.st (.pair (.int .i64) (.int .i64)))) (.c (.val (.st (.pair (.int .i64) (.int .i64)))) .e)) (F_spec_LineOf k)) (tcons 37 (ftab (.c (.val (.st (.pair (.int .i64) (.int .i64)))) (.c (.val (.st (.pair (.int .i64) (.int .i64)))) .e)) (F_impl_LineOf k)) (tcons 38 (ftab (.c (.val (.sl (.sl (.st (.pair (.int .i64) (.int .i64)))))) (.c (.val (.sl (.sl (.st (.pair (.int .i64) (.int .i64)))))) .e)) (F_laws_eqHexSS k)) (tcons (39 + 1000000 * 1) (ftab (.c (.val (.sl (.sl (.st (.pair (.int .i64) (.int .i64)))))) (.c (.val (.int .i64)) .e)) (F_laws_markHexSS_in k)) (tcons 40 (ftab (.c (.val (.sl (.sl (.st (.pair (.int .i64) (.int .i64)))))) (.c (.val (.int .i64)) .e)) (F_laws_heldHexSS k)) tnil)))))) ∧ NatE (tcons 14 (ftab (.c (.val (.st (.pair (.int .i64) (.int .i64)))) .e) (F_laws_toHex k)) (tcons 36 (ftab (.c (.val (.st (.pair (.int .i64) (.int .i64)))) (.c (.val (.st (.pair (.int .i64) (.int .i64)))) .e)) (F_spec_LineOf k)) (tcons 37 (ftab (.c (.val (.st (.pair (.int .i64) (.int .i64)))) (.c (.val (.st (.pair (.int .i64) (.int .i64)))) .e)) (F_impl_LineOf k)) (tcons 38 (ftab (.c (.val (.sl (.sl (.st (.pair (.int .i64) (.int .i64)))))) (.c (.val (.sl (.sl (.st (.pair (.int .i64) (.int .i64)))))) .e)) (F_laws_eqHexSS k)) (tcons (39 + 1000000 * 1) (ftab (.c (.val (.sl (.sl (.st (.pair (.int .i64) (.int .i64)))))) (.c (.val (.int .i64)) .e)) (F_laws_markHexSS_in k)) (tcons 40 (ftab (.c (.val (.sl (.sl (.st (.pair (.int .i64) (.int .i64)))))) (.c (.val (.int .i64)) .e)) (F_laws_heldHexSS k)) tnil)))))) := (tab_cons (s_laws_toHex k) (tab_cons (s_spec_LineOf k) (tab_cons (s_impl_LineOf k) (tab_cons (s_laws_eqHexSS k) (tab_consI (by decide) (s_laws_markHexSS_in k) (tab_cons (s_laws_heldHexSS k) e0))))))
theorem s_laws_FnExactLineOf (k : Nat) : SoundF Try.prog glob 12 (ftab (.c (.val (.st (.pair (.int .i64) (.int .i64)))) (.c (.val (.st (.pair (.int .i64) (.int .i64)))) .e)) (F_laws_FnExactLineOf k)) :=
  fun_ok (cx := cx_laws_FnExactLineOf) (by kernel_rfl) ⟨types, (e_laws_FnExactLineOf k).1, (e_laws_FnExactLineOf k).2, mixed, rfl⟩ Try.func12 rfl (LoopsOK.nil) [] (by kernel_rfl) (fun x K => q_laws_FnExactLineOf k (fun a0 {_} K => laws_toHex a0 K) (fun a0 a1 {_} K => spec_LineOf k a0 a1 K) (fun a0 a1 {_} K => impl_LineOf k a0 a1 K) (fun a0 a1 {_} K => laws_eqHexSS k a0 a1 K) (fun a0 a1 {_} K => laws_markHexSS_in k a0 a1 K) (fun a0 a1 {_} K => laws_heldHexSS k a0 a1 K) x K)
def E_laws_FnExactLineOf (k : Nat) : Tbl := tcons 12 (ftab (.c (.val (.st (.pair (.int .i64) (.int .i64)))) (.c (.val (.st (.pair (.int .i64) (.int .i64)))) .e)) (F_laws_FnExactLineOf k)) (E_laws_heldHexSS k)
theorem E_laws_FnExactLineOf_ok (k : Nat) : SoundE Try.prog glob (E_laws_FnExactLineOf k) ∧ NatE (E_laws_FnExactLineOf k) := tab_cons (s_laws_FnExactLineOf k) (E_laws_heldHexSS_ok k)
end Go.Proofs.Ytpaikmmncnigkaa.TieLineOf
