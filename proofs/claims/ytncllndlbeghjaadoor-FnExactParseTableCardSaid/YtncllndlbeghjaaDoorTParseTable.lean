import Derived.Test.YtncllndlbeghjaaDoorEv3
import Derived.Test.YtncllndlbeghjaaDoorLg1
import Derived.Test.YtncllndlbeghjaaDoorShelf
import Derived.Lib.AtoiOr
import Derived.Lib.AtoiErrMem
import Derived.Lib.AppendIntMem
import Derived.WalkKit
import Derived.BigCall
import Derived.KernelRfl
import Derived.Eval
import Derived.Test.YtncllndlbeghjaaDoorProg
import Derived.Test.YtncllndlbeghjaaDoorChecked
set_option linter.unusedVariables false
set_option linter.unusedSimpArgs false
set_option linter.unusedSectionVars false
set_option linter.unusedVariables false
set_option maxRecDepth 100000
namespace Go.Proofs.YtncllndlbeghjaaDoor.TieParseTable
open Go Go.Ev Go.Lg Go.Proofs Go.RowKit
def tys : Nat → Option Ty := lookT [(3, (.int .i64)), (4, .bool), (5, (.int .u8)), (9, .str), (22, (.sl (.st (.pair (.int .i64) (.int .i64))))), (23, (.sl (.sl (.int .i64)))), (25, (.st (.pair (.sl (.st (.pair (.int .i64) (.int .i64)))) (.pair (.int .i64) (.sl (.sl (.int .i64))))))), (52, (.sl .str)), (59, (.st (.pair (.int .i64) (.int .i64)))), (60, (.sl (.int .i64))), (123, (.sl (.int .u8))), (168, (.arr 20 (.int .u64)))]
theorem types : Types Tryd.prog tys := types_of (by kernel_rfl)
theorem mixed : Tryd.prog.follows .mixedOrders = true := Checked.mixed Tryd.checked
variable [GC]
def glob : Nat → AV := fun g => bif Nat.beq g 0 then .tab [.int .i64 GC.mx] else bif Nat.beq g 1 then .tab [(GC.e0 : IfV).1] else bif Nat.beq g 2 then .tab [(GC.e1 : IfV).1] else bif Nat.beq g 5 then .tab (Lib.pow10Tab.map fun z => Value.int .u64 z) else .bot
theorem e0 : SoundE Tryd.prog glob tnil ∧ NatE tnil := ⟨tnil_sound, tnil_nat⟩
theorem tab_cons {n : Nat} {t : FFun} {E : Tbl} (h : SoundF Tryd.prog glob n t) (h2 : SoundE Tryd.prog glob E ∧ NatE E) : SoundE Tryd.prog glob (tcons n t E) ∧ NatE (tcons n t E) := ⟨tcons_sound h h2.1, tcons_nat h h2.2⟩
theorem tab_consI {n m : Nat} {t : FFun} {E : Tbl} (hm : m ≠ 0) (h : SoundI Tryd.prog glob n m t) (h2 : SoundE Tryd.prog glob E ∧ NatE E) : SoundE Tryd.prog glob (tcons (n + 1000000 * m) t E) ∧ NatE (tcons (n + 1000000 * m) t E) := ⟨tconsI_sound hm h h2.1, tconsI_nat h h2.2⟩
/-- spec.l1Split -/
def cx_spec_l1Split : Cx := { N := 34, G := glob, C := tys, ad := fun d => false, wk := false }
def sp_spec_l1Split_l0 : LSp where
  cv := [(5, 2000005, .str)]
  ts := [(0, .val .str), (1, .val (.int .u8)), (5, .own 2000005), (6, .val (.int .i64)), (7, .val (.int .i64))]
  ids := [(2000005, .row .str)]
  tx := fun e => match e with | .exit i => bif Nat.beq i 0 then [0, 5, 6] else [] | .ret => [] | .normal => []
  ix := fun e => match e with | .exit i => bif Nat.beq i 0 then [2000005] else [] | .ret => [] | .normal => []
def F_spec_l1Split_l0 (k : Nat) : LArg sp_spec_l1Split_l0 := fun K n x y => spec_l1Split_l0 k (fun (y0 : ByteArray) (y1 : Int) (y2 : List ByteArray) => K (.exit 0) (mkSt [(0, .val .str y0), (5, .own 2000005 1), (6, .val (.int .i64) y1)] [(2000005, some (.row .str y2))])) n x.1 x.2.1 x.2.2.2.1 x.2.2.2.2.1 y.1
def LO_spec_l1Split_l0 (k : Nat) : LTbl := (lcons 4 (ltab sp_spec_l1Split_l0 (F_spec_l1Split_l0 k) k) lnil)
theorem lk_spec_l1Split_l0 (k : Nat) : LoopsOK Tryd.prog glob (tnil) cx_spec_l1Split (LO_spec_l1Split_l0 k) ((4, (loopB Tryd.f55 4)) :: []) :=
  LoopsOK.cons (LoopsOK.nil) (e0).2 (F := F_spec_l1Split_l0 k) k [] (by kernel_rfl) (by kernel_rfl) (fun K x y => rfl) (fun n x y K => by kernel_rfl)
def F_spec_l1Split (k : Nat) : FArg (.c (.val .str) (.c (.val (.int .u8)) .e)) := fun x K => spec_l1Split k x.1 x.2.1 (fun (r0 : List ByteArray) => K [⟨(.sl .str), r0, true⟩])
theorem s_spec_l1Split (k : Nat) : SoundF Tryd.prog glob 55 (ftab (.c (.val .str) (.c (.val (.int .u8)) .e)) (F_spec_l1Split k)) :=
  fun_ok (cx := cx_spec_l1Split) (by kernel_rfl) ⟨types, (e0).1, (e0).2, mixed, rfl⟩ Tryd.func55 rfl (lk_spec_l1Split_l0 k) [0] (by kernel_rfl) (fun x K => by kernel_rfl)
def E_spec_l1Split (k : Nat) : Tbl := tcons 55 (ftab (.c (.val .str) (.c (.val (.int .u8)) .e)) (F_spec_l1Split k)) (tnil)
theorem E_spec_l1Split_ok (k : Nat) : SoundE Tryd.prog glob (E_spec_l1Split k) ∧ NatE (E_spec_l1Split k) := tab_cons (s_spec_l1Split k) (e0)
/-- spec.l1In -/
def cx_spec_l1In : Cx := { N := 15, G := glob, C := tys, ad := fun d => false, wk := false }
def F_spec_l1In (k : Nat) : FArg (.c (.val (.int .i64)) (.c (.val (.int .i64)) (.c (.val (.int .i64)) .e))) := fun x K => spec_l1In x.1 x.2.1 x.2.2.1 (fun (r0 : Bool) => K [⟨.bool, r0, true⟩])
theorem s_spec_l1In (k : Nat) : SoundF Tryd.prog glob 44 (ftab (.c (.val (.int .i64)) (.c (.val (.int .i64)) (.c (.val (.int .i64)) .e))) (F_spec_l1In k)) :=
  fun_ok (cx := cx_spec_l1In) (by kernel_rfl) ⟨types, (E_spec_l1Split_ok k).1, (E_spec_l1Split_ok k).2, mixed, rfl⟩ Tryd.func44 rfl (LoopsOK.nil) [] (by kernel_rfl) (fun x K => by kernel_rfl)
def E_spec_l1In (k : Nat) : Tbl := tcons 44 (ftab (.c (.val (.int .i64)) (.c (.val (.int .i64)) (.c (.val (.int .i64)) .e))) (F_spec_l1In k)) (E_spec_l1Split k)
theorem E_spec_l1In_ok (k : Nat) : SoundE Tryd.prog glob (E_spec_l1In k) ∧ NatE (E_spec_l1In k) := tab_cons (s_spec_l1In k) (E_spec_l1Split_ok k)
/-- spec.l1Read -/
def cx_spec_l1Read : Cx := { N := 44, G := glob, C := tys, ad := fun d => false, wk := false }
def sp_spec_l1Read_l0 : LSp where
  cv := []
  ts := [(0, .val .str), (3, .val (.int .i64)), (4, .val (.int .i64))]
  ids := []
  tx := fun e => match e with | .exit i => bif Nat.beq i 0 then [3] else [] | .ret => [2] | .normal => []
  ix := fun e => match e with | .exit i => bif Nat.beq i 0 then [] else [] | .ret => [] | .normal => []
def F_spec_l1Read_l0 (k : Nat) : LArg sp_spec_l1Read_l0 := fun K n x y => spec_l1Read_l0 k (fun (y0 : Int) => K (.exit 0) (mkSt [(3, .val (.int .i64) y0)] [])) (fun (y0 : Int) => K (.ret) (mkSt [(2, .val (.int .i64) y0)] [])) n x.1 x.2.1 x.2.2.1
def LO_spec_l1Read_l0 (k : Nat) : LTbl := (lcons 5 (ltab sp_spec_l1Read_l0 (F_spec_l1Read_l0 k) k) lnil)
theorem lk_spec_l1Read_l0 (k : Nat) : LoopsOK Tryd.prog glob (E_spec_l1In k) cx_spec_l1Read (LO_spec_l1Read_l0 k) ((5, (loopB Tryd.f91 5)) :: []) :=
  LoopsOK.cons (LoopsOK.nil) (E_spec_l1In_ok k).2 (F := F_spec_l1Read_l0 k) k [] (by kernel_rfl) (by kernel_rfl) (fun K x y => rfl) (fun n x y K => by kernel_rfl)
def F_spec_l1Read (k : Nat) : FArg (.c (.val .str) .e) := fun x K => spec_l1Read k x.1 (fun (r0 : Int) => K [⟨(.int .i64), r0, true⟩])
theorem s_spec_l1Read (k : Nat) : SoundF Tryd.prog glob 91 (ftab (.c (.val .str) .e) (F_spec_l1Read k)) :=
  fun_ok (cx := cx_spec_l1Read) (by kernel_rfl) ⟨types, (E_spec_l1In_ok k).1, (E_spec_l1In_ok k).2, mixed, rfl⟩ Tryd.func91 rfl (lk_spec_l1Read_l0 k) [0] (by kernel_rfl) (fun x K => by kernel_rfl)
def E_spec_l1Read (k : Nat) : Tbl := tcons 91 (ftab (.c (.val .str) .e) (F_spec_l1Read k)) (E_spec_l1In k)
theorem E_spec_l1Read_ok (k : Nat) : SoundE Tryd.prog glob (E_spec_l1Read k) ∧ NatE (E_spec_l1Read k) := tab_cons (s_spec_l1Read k) (E_spec_l1In_ok k)
/-- spec.kOdds -/
def cx_spec_kOdds : Cx := { N := 53, G := glob, C := tys, ad := fun d => Nat.beq d 20 || Nat.beq d 32, wk := false, dp := true }
def sp_spec_kOdds_l0 : LSp where
  cv := [(10000200, 2200040, (.st (.pair (.int .i64) (.int .i64)))), (10000202, 2700042, (.sl (.int .i64))), (10000400, 2200080, (.st (.pair (.int .i64) (.int .i64)))), (10000402, 2700082, (.sl (.int .i64)))]
  ts := [(2, .ptr 2), (4, .ptr 4), (25, .val (.sl .str)), (26, .val (.int .i64)), (27, .val (.int .i64))]
  ids := [(2, .box (.st (.pair (.sl (.st (.pair (.int .i64) (.int .i64)))) (.pair (.int .i64) (.sl (.sl (.int .i64)))))) (.agg (.c (.own 2200040) (.c (.val (.int .i64)) (.c (.own 2700042) .e))))), (4, .box (.st (.pair (.sl (.st (.pair (.int .i64) (.int .i64)))) (.pair (.int .i64) (.sl (.sl (.int .i64)))))) (.agg (.c (.own 2200080) (.c (.val (.int .i64)) (.c (.own 2700082) .e))))), (2200040, .row (.st (.pair (.int .i64) (.int .i64)))), (2700042, .deep (.sl (.int .i64))), (2200080, .row (.st (.pair (.int .i64) (.int .i64)))), (2700082, .deep (.sl (.int .i64)))]
  tx := fun e => match e with | .exit i => bif Nat.beq i 0 then [2, 4] else [] | .ret => [2, 3] | .normal => []
  ix := fun e => match e with | .exit i => bif Nat.beq i 0 then [2, 4, 2200040, 2700042, 2200080, 2700082] else [] | .ret => [2, 2200080, 2700082] | .normal => []
def F_spec_kOdds_l0 (k : Nat) : LArg sp_spec_kOdds_l0 := fun K n x y => spec_kOdds_l0 k (fun (y0 : Int) (y1 : Int) (y2 : List (Int × Int)) (y3 : List (List Int)) (y4 : List (Int × Int)) (y5 : List (List Int)) => K (.exit 0) (mkSt [(2, .ptr 2 1 []), (4, .ptr 4 1 [])] [(2, some (.box (.st (.pair (.sl (.st (.pair (.int .i64) (.int .i64)))) (.pair (.int .i64) (.sl (.sl (.int .i64)))))) (.agg [.own 2200040 1, .val (.int .i64) y0, .own 2700042 1]))), (4, some (.box (.st (.pair (.sl (.st (.pair (.int .i64) (.int .i64)))) (.pair (.int .i64) (.sl (.sl (.int .i64)))))) (.agg [.own 2200080 1, .val (.int .i64) y1, .own 2700082 1]))), (2200040, some (.row (.st (.pair (.int .i64) (.int .i64))) y2)), (2700042, some (.deep (.sl (.int .i64)) y3 0)), (2200080, some (.row (.st (.pair (.int .i64) (.int .i64))) y4)), (2700082, some (.deep (.sl (.int .i64)) y5 0))])) (fun (y0 : Bool) (y1 : Int) (y2 : List (Int × Int)) (y3 : List (List Int)) => K (.ret) (mkSt [(2, .ptr 2 1 []), (3, .val .bool y0)] [(2, some (.box (.st (.pair (.sl (.st (.pair (.int .i64) (.int .i64)))) (.pair (.int .i64) (.sl (.sl (.int .i64)))))) (.agg [.own 2200080 1, .val (.int .i64) y1, .own 2700082 1]))), (2200080, some (.row (.st (.pair (.int .i64) (.int .i64))) y2)), (2700082, some (.deep (.sl (.int .i64)) y3 0))])) n x.2.2.1 x.2.2.2.1 x.2.2.2.2.1 y.1.2.1 y.2.1.2.1 y.2.2.1 y.2.2.2.1 y.2.2.2.2.1 y.2.2.2.2.2.1
def LO_spec_kOdds_l0 (k : Nat) : LTbl := (lcons 7 (ltab sp_spec_kOdds_l0 (F_spec_kOdds_l0 k) k) lnil)
theorem lk_spec_kOdds_l0 (k : Nat) : LoopsOK Tryd.prog glob (E_spec_l1Read k) cx_spec_kOdds (LO_spec_kOdds_l0 k) ((7, (loopB Tryd.f56 7)) :: []) :=
  LoopsOK.cons (LoopsOK.nil) (E_spec_l1Read_ok k).2 (F := F_spec_kOdds_l0 k) k [] (by kernel_rfl) (by kernel_rfl) (fun K x y => rfl) (fun n x y K => by kernel_rfl)
def F_spec_kOdds (k : Nat) : FArg (.c (.val (.sl .str)) .e) := fun x K => spec_kOdds k x.1 (fun (r0 : (List (Int × Int)) × Int × List (List Int)) (r1 : Bool) => K [⟨(.st (.pair (.sl (.st (.pair (.int .i64) (.int .i64)))) (.pair (.int .i64) (.sl (.sl (.int .i64)))))), r0, true⟩, ⟨.bool, r1, true⟩])
theorem s_spec_kOdds (k : Nat) : SoundF Tryd.prog glob 56 (ftab (.c (.val (.sl .str)) .e) (F_spec_kOdds k)) :=
  fun_ok (cx := cx_spec_kOdds) (by kernel_rfl) ⟨types, (E_spec_l1Read_ok k).1, (E_spec_l1Read_ok k).2, mixed, rfl⟩ Tryd.func56 rfl (lk_spec_kOdds_l0 k) [0] (by kernel_rfl) (fun x K => by kernel_rfl)
def E_spec_kOdds (k : Nat) : Tbl := tcons 56 (ftab (.c (.val (.sl .str)) .e) (F_spec_kOdds k)) (E_spec_l1Read k)
theorem E_spec_kOdds_ok (k : Nat) : SoundE Tryd.prog glob (E_spec_kOdds k) ∧ NatE (E_spec_kOdds k) := tab_cons (s_spec_kOdds k) (E_spec_l1Read_ok k)
/-- spec.l1Most -/
def cx_spec_l1Most : Cx := { N := 10, G := glob, C := tys, ad := fun d => false, wk := false }
def F_spec_l1Most (k : Nat) : FArg (.c (.val (.int .i64)) (.c (.val (.int .i64)) .e)) := fun x K => spec_l1Most x.1 x.2.1 (fun (r0 : Int) => K [⟨(.int .i64), r0, true⟩])
theorem s_spec_l1Most (k : Nat) : SoundF Tryd.prog glob 57 (ftab (.c (.val (.int .i64)) (.c (.val (.int .i64)) .e)) (F_spec_l1Most k)) :=
  fun_ok (cx := cx_spec_l1Most) (by kernel_rfl) ⟨types, (E_spec_kOdds_ok k).1, (E_spec_kOdds_ok k).2, mixed, rfl⟩ Tryd.func57 rfl (LoopsOK.nil) [] (by kernel_rfl) (fun x K => by kernel_rfl)
def E_spec_l1Most (k : Nat) : Tbl := tcons 57 (ftab (.c (.val (.int .i64)) (.c (.val (.int .i64)) .e)) (F_spec_l1Most k)) (E_spec_kOdds k)
theorem E_spec_l1Most_ok (k : Nat) : SoundE Tryd.prog glob (E_spec_l1Most k) ∧ NatE (E_spec_l1Most k) := tab_cons (s_spec_l1Most k) (E_spec_kOdds_ok k)
/-- spec.kRows -/
def cx_spec_kRows : Cx := { N := 6, G := glob, C := tys, ad := fun d => false, wk := false }
def F_spec_kRows (k : Nat) : FArg (.c (.val (.int .i64)) .e) := fun x K => spec_kRows x.1 (fun (r0 : Int) => K [⟨(.int .i64), r0, true⟩])
theorem s_spec_kRows (k : Nat) : SoundF Tryd.prog glob 72 (ftab (.c (.val (.int .i64)) .e) (F_spec_kRows k)) :=
  fun_ok (cx := cx_spec_kRows) (by kernel_rfl) ⟨types, (E_spec_l1Most_ok k).1, (E_spec_l1Most_ok k).2, mixed, rfl⟩ Tryd.func72 rfl (LoopsOK.nil) [] (by kernel_rfl) (fun x K => by kernel_rfl)
def E_spec_kRows (k : Nat) : Tbl := tcons 72 (ftab (.c (.val (.int .i64)) .e) (F_spec_kRows k)) (E_spec_l1Most k)
theorem E_spec_kRows_ok (k : Nat) : SoundE Tryd.prog glob (E_spec_kRows k) ∧ NatE (E_spec_kRows k) := tab_cons (s_spec_kRows k) (E_spec_l1Most_ok k)
/-- spec.l1All -/
def cx_spec_l1All : Cx := { N := 21, G := glob, C := tys, ad := fun d => false, wk := false }
def sp_spec_l1All_l0 : LSp where
  cv := []
  ts := [(1, .val (.int .i64)), (2, .val (.int .i64)), (9, .val (.sl (.int .i64))), (10, .val (.int .i64)), (11, .val (.int .i64))]
  ids := []
  tx := fun e => match e with | .exit i => bif Nat.beq i 0 then [] else [] | .ret => [6] | .normal => []
  ix := fun e => match e with | .exit i => bif Nat.beq i 0 then [] else [] | .ret => [] | .normal => []
def F_spec_l1All_l0 (k : Nat) : LArg sp_spec_l1All_l0 := fun K n x y => spec_l1All_l0 k (K (.exit 0) (mkSt [] [])) (fun (y0 : Bool) => K (.ret) (mkSt [(6, .val .bool y0)] [])) n x.1 x.2.1 x.2.2.1 x.2.2.2.1 x.2.2.2.2.1
def LO_spec_l1All_l0 (k : Nat) : LTbl := (lcons 2 (ltab sp_spec_l1All_l0 (F_spec_l1All_l0 k) k) lnil)
theorem lk_spec_l1All_l0 (k : Nat) : LoopsOK Tryd.prog glob (E_spec_kRows k) cx_spec_l1All (LO_spec_l1All_l0 k) ((2, (loopB Tryd.f73 2)) :: []) :=
  LoopsOK.cons (LoopsOK.nil) (E_spec_kRows_ok k).2 (F := F_spec_l1All_l0 k) k [] (by kernel_rfl) (by kernel_rfl) (fun K x y => rfl) (fun n x y K => by kernel_rfl)
def F_spec_l1All (k : Nat) : FArg (.c (.val (.sl (.int .i64))) (.c (.val (.int .i64)) (.c (.val (.int .i64)) .e))) := fun x K => spec_l1All k x.1 x.2.1 x.2.2.1 (fun (r0 : Bool) => K [⟨.bool, r0, true⟩])
theorem s_spec_l1All (k : Nat) : SoundF Tryd.prog glob 73 (ftab (.c (.val (.sl (.int .i64))) (.c (.val (.int .i64)) (.c (.val (.int .i64)) .e))) (F_spec_l1All k)) :=
  fun_ok (cx := cx_spec_l1All) (by kernel_rfl) ⟨types, (E_spec_kRows_ok k).1, (E_spec_kRows_ok k).2, mixed, rfl⟩ Tryd.func73 rfl (lk_spec_l1All_l0 k) [0] (by kernel_rfl) (fun x K => by kernel_rfl)
def E_spec_l1All (k : Nat) : Tbl := tcons 73 (ftab (.c (.val (.sl (.int .i64))) (.c (.val (.int .i64)) (.c (.val (.int .i64)) .e))) (F_spec_l1All k)) (E_spec_kRows k)
theorem E_spec_l1All_ok (k : Nat) : SoundE Tryd.prog glob (E_spec_l1All k) ∧ NatE (E_spec_l1All k) := tab_cons (s_spec_l1All k) (E_spec_kRows_ok k)
/-- spec.kGood -/
def cx_spec_kGood : Cx := { N := 90, G := glob, C := tys, ad := fun d => false, wk := false }
def sp_spec_kGood_l0 : LSp where
  cv := []
  ts := [(1, .ptr 1), (28, .val (.sl (.st (.pair (.int .i64) (.int .i64))))), (29, .val (.int .i64)), (30, .val (.int .i64))]
  ids := [(1, .box (.st (.pair (.sl (.st (.pair (.int .i64) (.int .i64)))) (.pair (.int .i64) (.sl (.sl (.int .i64)))))) (.val (.st (.pair (.sl (.st (.pair (.int .i64) (.int .i64)))) (.pair (.int .i64) (.sl (.sl (.int .i64))))))))]
  tx := fun e => match e with | .exit i => bif Nat.beq i 0 then [1] else [] | .ret => [2] | .normal => []
  ix := fun e => match e with | .exit i => bif Nat.beq i 0 then [1] else [] | .ret => [] | .normal => []
def F_spec_kGood_l0 (k : Nat) : LArg sp_spec_kGood_l0 := fun K n x y => spec_kGood_l0 k (fun (y0 : (List (Int × Int)) × Int × List (List Int)) => K (.exit 0) (mkSt [(1, .ptr 1 1 [])] [(1, some (.box (.st (.pair (.sl (.st (.pair (.int .i64) (.int .i64)))) (.pair (.int .i64) (.sl (.sl (.int .i64)))))) (.val (.st (.pair (.sl (.st (.pair (.int .i64) (.int .i64)))) (.pair (.int .i64) (.sl (.sl (.int .i64)))))) y0)))])) (fun (y0 : Bool) => K (.ret) (mkSt [(2, .val .bool y0)] [])) n x.2.1 x.2.2.1 x.2.2.2.1 y.1
def LO_spec_kGood_l0 (k : Nat) : LTbl := (lcons 4 (ltab sp_spec_kGood_l0 (F_spec_kGood_l0 k) k) lnil)
theorem lk_spec_kGood_l0 (k : Nat) : LoopsOK Tryd.prog glob (E_spec_l1All k) cx_spec_kGood (LO_spec_kGood_l0 k) ((4, (loopB Tryd.f37 4)) :: []) :=
  LoopsOK.cons (LoopsOK.nil) (E_spec_l1All_ok k).2 (F := F_spec_kGood_l0 k) k [] (by kernel_rfl) (by kernel_rfl) (fun K x y => rfl) (fun n x y K => by kernel_rfl)
def sp_spec_kGood_l1 : LSp where
  cv := []
  ts := [(1, .ptr 1), (72, .val (.sl (.sl (.int .i64)))), (73, .val (.int .i64)), (74, .val (.int .i64))]
  ids := [(1, .box (.st (.pair (.sl (.st (.pair (.int .i64) (.int .i64)))) (.pair (.int .i64) (.sl (.sl (.int .i64)))))) (.val (.st (.pair (.sl (.st (.pair (.int .i64) (.int .i64)))) (.pair (.int .i64) (.sl (.sl (.int .i64))))))))]
  tx := fun e => match e with | .exit i => bif Nat.beq i 2 then [] else [] | .ret => [2] | .normal => []
  ix := fun e => match e with | .exit i => bif Nat.beq i 2 then [] else [] | .ret => [] | .normal => []
def F_spec_kGood_l1 (k : Nat) : LArg sp_spec_kGood_l1 := fun K n x y => spec_kGood_l1 k (K (.exit 2) (mkSt [] [])) (fun (y0 : Bool) => K (.ret) (mkSt [(2, .val .bool y0)] [])) n x.2.1 x.2.2.1 x.2.2.2.1 y.1
def LO_spec_kGood_l1 (k : Nat) : LTbl := (lcons 12 (ltab sp_spec_kGood_l1 (F_spec_kGood_l1 k) k) (LO_spec_kGood_l0 k))
theorem lk_spec_kGood_l1 (k : Nat) : LoopsOK Tryd.prog glob (E_spec_l1All k) cx_spec_kGood (LO_spec_kGood_l1 k) ((12, (loopB Tryd.f37 12)) :: ((4, (loopB Tryd.f37 4)) :: [])) :=
  LoopsOK.cons (lk_spec_kGood_l0 k) (E_spec_l1All_ok k).2 (F := F_spec_kGood_l1 k) k [] (by kernel_rfl) (by kernel_rfl) (fun K x y => rfl) (fun n x y K => by kernel_rfl)
def F_spec_kGood (k : Nat) : FArg (.c (.val (.st (.pair (.sl (.st (.pair (.int .i64) (.int .i64)))) (.pair (.int .i64) (.sl (.sl (.int .i64))))))) .e) := fun x K => spec_kGood k x.1 (fun (r0 : Bool) => K [⟨.bool, r0, true⟩])
theorem s_spec_kGood (k : Nat) : SoundF Tryd.prog glob 37 (ftab (.c (.val (.st (.pair (.sl (.st (.pair (.int .i64) (.int .i64)))) (.pair (.int .i64) (.sl (.sl (.int .i64))))))) .e) (F_spec_kGood k)) :=
  fun_ok (cx := cx_spec_kGood) (by kernel_rfl) ⟨types, (E_spec_l1All_ok k).1, (E_spec_l1All_ok k).2, mixed, rfl⟩ Tryd.func37 rfl (lk_spec_kGood_l1 k) [1, 0] (by kernel_rfl) (fun x K => by kernel_rfl)
def E_spec_kGood (k : Nat) : Tbl := tcons 37 (ftab (.c (.val (.st (.pair (.sl (.st (.pair (.int .i64) (.int .i64)))) (.pair (.int .i64) (.sl (.sl (.int .i64))))))) .e) (F_spec_kGood k)) (E_spec_l1All k)
theorem E_spec_kGood_ok (k : Nat) : SoundE Tryd.prog glob (E_spec_kGood k) ∧ NatE (E_spec_kGood k) := tab_cons (s_spec_kGood k) (E_spec_l1All_ok k)
/-- spec.l1Num -/
def cx_spec_l1Num : Cx := { N := 20, G := glob, C := tys, ad := fun d => false, wk := false }
def F_spec_l1Num (d : Nat) : FArg (.c (.val (.int .i64)) .e) := fun x K => spec_l1Num d x.1 (fun (r0 : ByteArray) => K [⟨.str, r0, true⟩])
theorem s_spec_l1Num (k : Nat) : SoundF Tryd.prog glob 74 (ftab (.c (.val (.int .i64)) .e) (F_spec_l1Num k)) :=
  rec_ok (cx := cx_spec_l1Num) (by kernel_rfl) ⟨types, (E_spec_kGood_ok k).1, (E_spec_kGood_ok k).2, mixed, rfl⟩ Tryd.func74 rfl (by kernel_rfl) (fun x K => rfl) (fun d x K => by kernel_rfl) k
def E_spec_l1Num (k : Nat) : Tbl := tcons 74 (ftab (.c (.val (.int .i64)) .e) (F_spec_l1Num k)) (E_spec_kGood k)
theorem E_spec_l1Num_ok (k : Nat) : SoundE Tryd.prog glob (E_spec_l1Num k) ∧ NatE (E_spec_l1Num k) := tab_cons (s_spec_l1Num k) (E_spec_kGood_ok k)
/-- spec.kText -/
def cx_spec_kText : Cx := { N := 58, G := glob, C := tys, ad := fun d => false, wk := false }
def sp_spec_kText_l0 : LSp where
  cv := []
  ts := [(1, .ptr 1), (3, .val .str), (11, .val (.sl (.st (.pair (.int .i64) (.int .i64))))), (12, .val (.int .i64)), (13, .val (.int .i64))]
  ids := [(1, .box (.st (.pair (.sl (.st (.pair (.int .i64) (.int .i64)))) (.pair (.int .i64) (.sl (.sl (.int .i64)))))) (.val (.st (.pair (.sl (.st (.pair (.int .i64) (.int .i64)))) (.pair (.int .i64) (.sl (.sl (.int .i64))))))))]
  tx := fun e => match e with | .exit i => bif Nat.beq i 0 then [1, 3] else [] | .ret => [] | .normal => []
  ix := fun e => match e with | .exit i => bif Nat.beq i 0 then [1] else [] | .ret => [] | .normal => []
def F_spec_kText_l0 (k : Nat) : LArg sp_spec_kText_l0 := fun K n x y => spec_kText_l0 k (fun (y0 : ByteArray) (y1 : (List (Int × Int)) × Int × List (List Int)) => K (.exit 0) (mkSt [(1, .ptr 1 1 []), (3, .val .str y0)] [(1, some (.box (.st (.pair (.sl (.st (.pair (.int .i64) (.int .i64)))) (.pair (.int .i64) (.sl (.sl (.int .i64)))))) (.val (.st (.pair (.sl (.st (.pair (.int .i64) (.int .i64)))) (.pair (.int .i64) (.sl (.sl (.int .i64)))))) y1)))])) n x.2.1 x.2.2.1 x.2.2.2.1 x.2.2.2.2.1 y.1
def LO_spec_kText_l0 (k : Nat) : LTbl := (lcons 3 (ltab sp_spec_kText_l0 (F_spec_kText_l0 k) k) lnil)
theorem lk_spec_kText_l0 (k : Nat) : LoopsOK Tryd.prog glob (E_spec_l1Num k) cx_spec_kText (LO_spec_kText_l0 k) ((3, (loopB Tryd.f38 3)) :: []) :=
  LoopsOK.cons (LoopsOK.nil) (E_spec_l1Num_ok k).2 (F := F_spec_kText_l0 k) k [] (by kernel_rfl) (by kernel_rfl) (fun K x y => rfl) (fun n x y K => by kernel_rfl)
def sp_spec_kText_l1 : LSp where
  cv := []
  ts := [(3, .val .str), (37, .val (.sl (.sl (.int .i64)))), (38, .val (.int .i64)), (39, .val (.int .i64)), (43, .val (.sl (.int .i64))), (44, .val (.int .i64)), (45, .val (.int .i64))]
  ids := []
  tx := fun e => match e with | .exit i => bif Nat.beq i 4 then [3, 37, 38, 39] else [] | .ret => [] | .normal => []
  ix := fun e => match e with | .exit i => bif Nat.beq i 4 then [] else [] | .ret => [] | .normal => []
def F_spec_kText_l1 (k : Nat) : LArg sp_spec_kText_l1 := fun K n x y => spec_kText_l1 k (fun (y0 : ByteArray) (y1 : List (List Int)) (y2 : Int) (y3 : Int) => K (.exit 4) (mkSt [(3, .val .str y0), (37, .val (.sl (.sl (.int .i64))) y1), (38, .val (.int .i64) y2), (39, .val (.int .i64) y3)] [])) n x.1 x.2.1 x.2.2.1 x.2.2.2.1 x.2.2.2.2.1 x.2.2.2.2.2.1 x.2.2.2.2.2.2.1
def LO_spec_kText_l1 (k : Nat) : LTbl := (lcons 12 (ltab sp_spec_kText_l1 (F_spec_kText_l1 k) k) (LO_spec_kText_l0 k))
theorem lk_spec_kText_l1 (k : Nat) : LoopsOK Tryd.prog glob (E_spec_l1Num k) cx_spec_kText (LO_spec_kText_l1 k) ((12, (loopB Tryd.f38 12)) :: ((3, (loopB Tryd.f38 3)) :: [])) :=
  LoopsOK.cons (lk_spec_kText_l0 k) (E_spec_l1Num_ok k).2 (F := F_spec_kText_l1 k) k [] (by kernel_rfl) (by kernel_rfl) (fun K x y => rfl) (fun n x y K => by kernel_rfl)
def sp_spec_kText_l2 : LSp where
  cv := []
  ts := [(3, .val .str), (37, .val (.sl (.sl (.int .i64)))), (38, .val (.int .i64)), (39, .val (.int .i64))]
  ids := []
  tx := fun e => match e with | .exit i => bif Nat.beq i 2 then [3] else [] | .ret => [] | .normal => []
  ix := fun e => match e with | .exit i => bif Nat.beq i 2 then [] else [] | .ret => [] | .normal => []
def F_spec_kText_l2 (k : Nat) : LArg sp_spec_kText_l2 := fun K n x y => spec_kText_l2 k (fun (y0 : ByteArray) => K (.exit 2) (mkSt [(3, .val .str y0)] [])) n x.1 x.2.1 x.2.2.1 x.2.2.2.1
def LO_spec_kText_l2 (k : Nat) : LTbl := (lcons 9 (ltab sp_spec_kText_l2 (F_spec_kText_l2 k) k) (LO_spec_kText_l1 k))
theorem lk_spec_kText_l2 (k : Nat) : LoopsOK Tryd.prog glob (E_spec_l1Num k) cx_spec_kText (LO_spec_kText_l2 k) ((9, (loopB Tryd.f38 9)) :: ((12, (loopB Tryd.f38 12)) :: ((3, (loopB Tryd.f38 3)) :: []))) :=
  LoopsOK.cons (lk_spec_kText_l1 k) (E_spec_l1Num_ok k).2 (F := F_spec_kText_l2 k) k [0] (by kernel_rfl) (by kernel_rfl) (fun K x y => rfl) (fun n x y K => by kernel_rfl)
def F_spec_kText (k : Nat) : FArg (.c (.val (.st (.pair (.sl (.st (.pair (.int .i64) (.int .i64)))) (.pair (.int .i64) (.sl (.sl (.int .i64))))))) .e) := fun x K => spec_kText k x.1 (fun (r0 : ByteArray) => K [⟨.str, r0, true⟩])
theorem s_spec_kText (k : Nat) : SoundF Tryd.prog glob 38 (ftab (.c (.val (.st (.pair (.sl (.st (.pair (.int .i64) (.int .i64)))) (.pair (.int .i64) (.sl (.sl (.int .i64))))))) .e) (F_spec_kText k)) :=
  fun_ok (cx := cx_spec_kText) (by kernel_rfl) ⟨types, (E_spec_l1Num_ok k).1, (E_spec_l1Num_ok k).2, mixed, rfl⟩ Tryd.func38 rfl (lk_spec_kText_l2 k) [2, 0] (by kernel_rfl) (fun x K => by kernel_rfl)
def E_spec_kText (k : Nat) : Tbl := tcons 38 (ftab (.c (.val (.st (.pair (.sl (.st (.pair (.int .i64) (.int .i64)))) (.pair (.int .i64) (.sl (.sl (.int .i64))))))) .e) (F_spec_kText k)) (E_spec_l1Num k)
theorem E_spec_kText_ok (k : Nat) : SoundE Tryd.prog glob (E_spec_kText k) ∧ NatE (E_spec_kText k) := tab_cons (s_spec_kText k) (E_spec_l1Num_ok k)
/-- spec.kParse -/
def cx_spec_kParse : Cx := { N := 72, G := glob, C := tys, ad := fun d => Nat.beq d 12 || Nat.beq d 17 || Nat.beq d 18 || Nat.beq d 62 || Nat.beq d 66, wk := true, dp := true }
def sp_spec_kParse_l0 : LSp where
  cv := [(9, 2000009, (.int .i64))]
  ts := [(0, .val .str), (2, .ptr 2), (5, .ptr 5), (8, .val .str), (9, .own 2000009), (10, .val (.int .i64)), (25, .val (.sl .str)), (26, .val (.int .i64)), (27, .val (.int .i64))]
  ids := [(2, .box (.st (.pair (.sl (.st (.pair (.int .i64) (.int .i64)))) (.pair (.int .i64) (.sl (.sl (.int .i64)))))) (.agg (.c (.own 2200040) (.c (.val (.int .i64)) (.c (.own 2700042) .e))))), (5, .box (.st (.pair (.sl (.st (.pair (.int .i64) (.int .i64)))) (.pair (.int .i64) (.sl (.sl (.int .i64)))))) (.agg (.c (.own 19000) (.c (.val (.int .i64)) (.c (.own 19001) .e))))), (2000009, .row (.int .i64)), (2200040, .row (.st (.pair (.int .i64) (.int .i64)))), (2700042, .deep (.sl (.int .i64))), (19000, .row (.st (.pair (.int .i64) (.int .i64)))), (19001, .deep (.sl (.int .i64)))]
  tx := fun e => match e with | .exit i => bif Nat.beq i 2 then [0, 2, 5, 9, 25, 26, 27] else [] | .ret => [] | .normal => []
  ix := fun e => match e with | .exit i => bif Nat.beq i 2 then [2, 5, 2000009, 2200040, 2700042, 19000, 19001] else [] | .ret => [] | .normal => []
def F_spec_kParse_l0 (k : Nat) : LArg sp_spec_kParse_l0 := fun K n x y => spec_kParse_l0 k (fun (y0 : ByteArray) (y1 : List ByteArray) (y2 : Int) (y3 : Int) (y4 : Int) (y5 : Int) (y6 : List Int) (y7 : List (Int × Int)) (y8 : List (List Int)) (y9 : List (Int × Int)) (y10 : List (List Int)) => K (.exit 2) (mkSt [(0, .val .str y0), (2, .ptr 2 1 []), (5, .ptr 5 1 []), (9, .own 2000009 1), (25, .val (.sl .str) y1), (26, .val (.int .i64) y2), (27, .val (.int .i64) y3)] [(2, some (.box (.st (.pair (.sl (.st (.pair (.int .i64) (.int .i64)))) (.pair (.int .i64) (.sl (.sl (.int .i64)))))) (.agg [.own 2200040 1, .val (.int .i64) y4, .own 2700042 1]))), (5, some (.box (.st (.pair (.sl (.st (.pair (.int .i64) (.int .i64)))) (.pair (.int .i64) (.sl (.sl (.int .i64)))))) (.agg [.own 19000 1, .val (.int .i64) y5, .own 19001 1]))), (2000009, some (.row (.int .i64) y6)), (2200040, some (.row (.st (.pair (.int .i64) (.int .i64))) y7)), (2700042, some (.deep (.sl (.int .i64)) y8 0)), (19000, some (.row (.st (.pair (.int .i64) (.int .i64))) y9)), (19001, some (.deep (.sl (.int .i64)) y10 0))])) n x.1 x.2.2.2.1 x.2.2.2.2.2.1 x.2.2.2.2.2.2.1 x.2.2.2.2.2.2.2.1 x.2.2.2.2.2.2.2.2.1 y.1.2.1 y.2.1.2.1 y.2.2.1 y.2.2.2.1 y.2.2.2.2.1 y.2.2.2.2.2.1 y.2.2.2.2.2.2.1
def LO_spec_kParse_l0 (k : Nat) : LTbl := (lcons 10 (ltab sp_spec_kParse_l0 (F_spec_kParse_l0 k) k) lnil)
theorem lk_spec_kParse_l0 (k : Nat) : LoopsOK Tryd.prog glob (E_spec_kText k) cx_spec_kParse (LO_spec_kParse_l0 k) ((10, (loopB Tryd.f23 10)) :: []) :=
  LoopsOK.cons (LoopsOK.nil) (E_spec_kText_ok k).2 (F := F_spec_kParse_l0 k) k [] (by kernel_rfl) (by kernel_rfl) (fun K x y => rfl) (fun n x y K => by kernel_rfl)
def sp_spec_kParse_l1 : LSp where
  cv := [(10000200, 2200040, (.st (.pair (.int .i64) (.int .i64)))), (10000202, 2700042, (.sl (.int .i64)))]
  ts := [(0, .val .str), (2, .ptr 2), (5, .ptr 5), (25, .val (.sl .str)), (26, .val (.int .i64)), (27, .val (.int .i64))]
  ids := [(2, .box (.st (.pair (.sl (.st (.pair (.int .i64) (.int .i64)))) (.pair (.int .i64) (.sl (.sl (.int .i64)))))) (.agg (.c (.own 2200040) (.c (.val (.int .i64)) (.c (.own 2700042) .e))))), (5, .box (.st (.pair (.sl (.st (.pair (.int .i64) (.int .i64)))) (.pair (.int .i64) (.sl (.sl (.int .i64)))))) (.agg (.c (.own 19000) (.c (.val (.int .i64)) (.c (.own 19001) .e))))), (2200040, .row (.st (.pair (.int .i64) (.int .i64)))), (2700042, .deep (.sl (.int .i64))), (19000, .row (.st (.pair (.int .i64) (.int .i64)))), (19001, .deep (.sl (.int .i64)))]
  tx := fun e => match e with | .exit i => bif Nat.beq i 0 then [0, 2, 5] else [] | .ret => [] | .normal => []
  ix := fun e => match e with | .exit i => bif Nat.beq i 0 then [2, 5, 2200040, 2700042, 19000, 19001] else [] | .ret => [] | .normal => []
def F_spec_kParse_l1 (k : Nat) : LArg sp_spec_kParse_l1 := fun K n x y => spec_kParse_l1 k (fun (y0 : ByteArray) (y1 : Int) (y2 : Int) (y3 : List (Int × Int)) (y4 : List (List Int)) (y5 : List (Int × Int)) (y6 : List (List Int)) => K (.exit 0) (mkSt [(0, .val .str y0), (2, .ptr 2 1 []), (5, .ptr 5 1 [])] [(2, some (.box (.st (.pair (.sl (.st (.pair (.int .i64) (.int .i64)))) (.pair (.int .i64) (.sl (.sl (.int .i64)))))) (.agg [.own 2200040 1, .val (.int .i64) y1, .own 2700042 1]))), (5, some (.box (.st (.pair (.sl (.st (.pair (.int .i64) (.int .i64)))) (.pair (.int .i64) (.sl (.sl (.int .i64)))))) (.agg [.own 19000 1, .val (.int .i64) y2, .own 19001 1]))), (2200040, some (.row (.st (.pair (.int .i64) (.int .i64))) y3)), (2700042, some (.deep (.sl (.int .i64)) y4 0)), (19000, some (.row (.st (.pair (.int .i64) (.int .i64))) y5)), (19001, some (.deep (.sl (.int .i64)) y6 0))])) n x.1 x.2.2.2.1 x.2.2.2.2.1 x.2.2.2.2.2.1 y.1.2.1 y.2.1.2.1 y.2.2.1 y.2.2.2.1 y.2.2.2.2.1 y.2.2.2.2.2.1
def LO_spec_kParse_l1 (k : Nat) : LTbl := (lcons 6 (ltab sp_spec_kParse_l1 (F_spec_kParse_l1 k) k) (LO_spec_kParse_l0 k))
theorem lk_spec_kParse_l1 (k : Nat) : LoopsOK Tryd.prog glob (E_spec_kText k) cx_spec_kParse (LO_spec_kParse_l1 k) ((6, (loopB Tryd.f23 6)) :: ((10, (loopB Tryd.f23 10)) :: [])) :=
  LoopsOK.cons (lk_spec_kParse_l0 k) (E_spec_kText_ok k).2 (F := F_spec_kParse_l1 k) k [0] (by kernel_rfl) (by kernel_rfl) (fun K x y => rfl) (fun n x y K => by kernel_rfl)
def F_spec_kParse (k : Nat) : FArg (.c (.val .str) .e) := fun x K => spec_kParse k x.1 (fun (r0 : (List (Int × Int)) × Int × List (List Int)) (r1 : Bool) => K [⟨(.st (.pair (.sl (.st (.pair (.int .i64) (.int .i64)))) (.pair (.int .i64) (.sl (.sl (.int .i64)))))), r0, false⟩, ⟨.bool, r1, true⟩])
theorem s_spec_kParse (k : Nat) : SoundF Tryd.prog glob 23 (ftab (.c (.val .str) .e) (F_spec_kParse k)) :=
  fun_ok (cx := cx_spec_kParse) (by kernel_rfl) ⟨types, (E_spec_kText_ok k).1, (E_spec_kText_ok k).2, mixed, rfl⟩ Tryd.func23 rfl (lk_spec_kParse_l1 k) [0] (by kernel_rfl) (fun x K => by kernel_rfl)
def E_spec_kParse (k : Nat) : Tbl := tcons 23 (ftab (.c (.val .str) .e) (F_spec_kParse k)) (E_spec_kText k)
theorem E_spec_kParse_ok (k : Nat) : SoundE Tryd.prog glob (E_spec_kParse k) ∧ NatE (E_spec_kParse k) := tab_cons (s_spec_kParse k) (E_spec_kText_ok k)
/-- spec.ParseTable -/
def cx_spec_ParseTable : Cx := { N := 8, G := glob, C := tys, ad := fun d => false, wk := false }
def F_spec_ParseTable (k : Nat) : FArg (.c (.val .str) .e) := fun x K => spec_ParseTable k x.1 (fun (r0 : (List (Int × Int)) × Int × List (List Int)) (r1 : Bool) => K [⟨(.st (.pair (.sl (.st (.pair (.int .i64) (.int .i64)))) (.pair (.int .i64) (.sl (.sl (.int .i64)))))), r0, false⟩, ⟨.bool, r1, true⟩])
theorem s_spec_ParseTable (k : Nat) : SoundF Tryd.prog glob 7 (ftab (.c (.val .str) .e) (F_spec_ParseTable k)) :=
  fun_ok (cx := cx_spec_ParseTable) (by kernel_rfl) ⟨types, (E_spec_kParse_ok k).1, (E_spec_kParse_ok k).2, mixed, rfl⟩ Tryd.func7 rfl (LoopsOK.nil) [] (by kernel_rfl) (fun x K => by kernel_rfl)
def E_spec_ParseTable (k : Nat) : Tbl := tcons 7 (ftab (.c (.val .str) .e) (F_spec_ParseTable k)) (E_spec_kParse k)
theorem E_spec_ParseTable_ok (k : Nat) : SoundE Tryd.prog glob (E_spec_ParseTable k) ∧ NatE (E_spec_ParseTable k) := tab_cons (s_spec_ParseTable k) (E_spec_kParse_ok k)
/-- strings.Split -/
def F_strings_Split (k : Nat) : FArg (.c (.val .str) (.c (.val .str) .e)) := fun x K => strings_Split x.1 x.2.1 fun r => K [⟨.sl .str, r, true⟩]
theorem s_strings_Split (k : Nat) : SoundF Tryd.prog glob 24 (ftab (.c (.val .str) (.c (.val .str) .e)) (F_strings_Split k)) := split_sound (g := 0) (m := GC.mx) (by kernel_rfl) rfl (fun s sep m w hs hm h1 => Tryd.strings_Split s sep m w hs hm h1)
def E_strings_Split (k : Nat) : Tbl := tcons 24 (ftab (.c (.val .str) (.c (.val .str) .e)) (F_strings_Split k)) (E_spec_ParseTable k)
theorem E_strings_Split_ok (k : Nat) : SoundE Tryd.prog glob (E_strings_Split k) ∧ NatE (E_strings_Split k) := tab_cons (s_strings_Split k) (E_spec_ParseTable_ok k)
/-- strings.Cut -/
def F_strings_Cut (k : Nat) : FArg (.c (.val .str) (.c (.val .str) .e)) := fun x K => strings_Cut x.1 x.2.1 fun a b c => K [⟨.str, a, true⟩, ⟨.str, b, true⟩, ⟨.bool, c, true⟩]
theorem s_strings_Cut (k : Nat) : SoundF Tryd.prog glob 25 (ftab (.c (.val .str) (.c (.val .str) .e)) (F_strings_Cut k)) := cut_sound (g := 0) (m := GC.mx) (by kernel_rfl) rfl (fun s sep m w hs hm => Tryd.strings_Cut s sep m w hs hm)
def E_strings_Cut (k : Nat) : Tbl := tcons 25 (ftab (.c (.val .str) (.c (.val .str) .e)) (F_strings_Cut k)) (E_strings_Split k)
theorem E_strings_Cut_ok (k : Nat) : SoundE Tryd.prog glob (E_strings_Cut k) ∧ NatE (E_strings_Cut k) := tab_cons (s_strings_Cut k) (E_strings_Split_ok k)
/-- impl.readInt -/
theorem itoa_toList (v : Int) : ByteArray.toList (itoaB v) = Lib.itoa v := by
  unfold itoaB
  simp
theorem var_below {P : Program} {w w' : World} {n : String} {cs : Array Value} (hb : Below w.heap.size w w') (h : w.var? P n = some cs) : w'.var? P n = some cs := by
  unfold World.var? at h ⊢
  cases hg : P.globalNamed n with
  | none => rw [hg] at h; cases h
  | some g =>
    rw [hg] at h
    simp only [Option.bind_some] at h ⊢
    have hlt : g < w.heap.size := by
      cases hh : w.heap[g]? with
      | none => rw [hh] at h; cases h
      | some o => exact (Array.getElem?_eq_some_iff.1 hh).1
    rw [hb.block g hlt]; exact h
theorem readInt_walk (s : ByteArray) (hlim : s.size ≤ 281474976710656) (ev0 ev1 : Value) (w : World) (hv0 : w.cell? ⟨1, 0, none⟩ = some ev0) (he0 : ev0 = .nilIface ∨ ∃ te pe, ev0 = .iface te pe) (hv1 : w.cell? ⟨2, 0, none⟩ = some ev1) (he1 : ev1 = .nilIface ∨ ∃ te pe, ev1 = .iface te pe)
    (htab : Lib.TabIs Tryd.prog w "internal/strconv.uint64pow10" .u64 Lib.pow10Tab) :
    Calls Tryd.prog 26 #[.string s] w fun e w' => e = .returned (.tuple #[.int .i64 (readIV s).1, .bool (readIV s).2]) ∧ Below w.heap.size w w' := by
  cases h : Lib.atoiAll s.data.toList with
  | ok v =>
    by_cases hL : (10 : Int) < ((ByteArray.size s : Nat) : Int)
    · have hr : readIV s = (0, false) := by unfold readIV; rw [h]; simp only [decide_eq_true hL, Bool.true_or, cond_true]
      rw [hr]
      go_enter Tryd.func26, Tryd.ntmps26
      go_wp2_with (go_at_call 60; refine (Tryd.strconv_Atoi_ok s (by omega) v h _).mono ?_; rintro e w' ⟨rfl, hw⟩)
      go_ret2
      refine ⟨rfl, ?_⟩
      rcases hw with rfl | ⟨t, rfl⟩
      · exact Below.refl _ _
      · exact Lib.bytesWorld_below _ _ _
    · have hv := Lib.atoiAll_bounds h
      go_enter Tryd.func26, Tryd.ntmps26
      go_wp2_with (first | (go_at_call 60; refine (Tryd.strconv_Atoi_ok s (by omega) v h _).mono ?_; rintro e w' ⟨rfl, hw⟩) | (go_at_call 61; refine (Tryd.strconv_Itoa v hv.1 hv.2 _ ?_).mono ?_))
      · rcases hw with rfl | ⟨t, rfl⟩
        · exact htab
        · exact var_below (Lib.bytesWorld_below _ _ _) htab
      · rintro e W2 ⟨rfl, k, os, rfl⟩
        have hb1 : Below w.heap.size w w' := by
          rcases hw with rfl | ⟨t, rfl⟩
          · exact Below.refl _ _
          · exact Lib.bytesWorld_below _ _ _
        have hb2 : Below w.heap.size w (Go.Sort.grow (w'.drewN k) os) := Below.trans hb1 (Lib.below_grow w.heap.size w' hb1.size k os)
        have key : ByteArray.toList (itoaB v) = Lib.itoa v := itoa_toList v
        go_wp2
        · rename_i hc
          have hr : readIV s = (0, false) := by
            unfold readIV; rw [h]
            simp only [key]
            rcases hc with hc | hc
            · omega
            · simp only [hc, Bool.or_true, cond_true]
          rw [hr]
          go_ret2
          exact ⟨rfl, hb2⟩
        · rename_i hc
          have hr : readIV s = (v, true) := by
            unfold readIV; rw [h]
            simp only [key, hc.2, decide_eq_false (by omega : ¬ (10 : Int) < ((ByteArray.size s : Nat) : Int)), Bool.or_false, cond_false]
          rw [hr]
          go_ret2
          exact ⟨rfl, hb2⟩
  | range =>
    have hr : readIV s = (0, false) := by unfold readIV; rw [h]
    rw [hr]
    go_enter Tryd.func26, Tryd.ntmps26
    go_wp2_with (go_at_call 60; refine (Tryd.strconv_Atoi_range s hlim h ev1 _ ?_ he1).mono ?_)
    · exact hv1
    rintro e W1 ⟨N, rfl, -, -, hb⟩
    go_wp2
    go_ret2
    exact ⟨rfl, hb⟩
  | _ =>
    have hr : readIV s = (0, false) := by unfold readIV; rw [h]
    rw [hr]
    go_enter Tryd.func26, Tryd.ntmps26
    go_wp2_with (go_at_call 60; refine (Tryd.strconv_Atoi_syntax s hlim ⟨fun n e => (by rw [h] at e; cases e), fun e => (by rw [h] at e; cases e)⟩ ev0 _ ?_ he0).mono ?_)
    · exact hv0
    rintro e W1 ⟨N, rfl, -, -, hb⟩
    go_wp2
    go_ret2
    exact ⟨rfl, hb⟩

def F_impl_readInt (k : Nat) : FArg (.c (.val .str) .e) := fun x K => impl_readInt x.1 fun n b => K [⟨.int .i64, n, true⟩, ⟨.bool, b, true⟩]
theorem s_impl_readInt (k : Nat) : SoundF Tryd.prog glob 26 (ftab (.c (.val .str) .e) (F_impl_readInt k)) := readInt_sound (g := 5) (g0 := 1) (g1 := 2) (e0 := GC.e0) (e1 := GC.e1) (by kernel_rfl) (by kernel_rfl) rfl rfl rfl (fun s hs ev0 ev1 w a b c d e => readInt_walk s hs ev0 ev1 w a b c d e)
def E_impl_readInt (k : Nat) : Tbl := tcons 26 (ftab (.c (.val .str) .e) (F_impl_readInt k)) (E_strings_Cut k)
theorem E_impl_readInt_ok (k : Nat) : SoundE Tryd.prog glob (E_impl_readInt k) ∧ NatE (E_impl_readInt k) := tab_cons (s_impl_readInt k) (E_strings_Cut_ok k)
/-- impl.inRange -/
def cx_impl_inRange : Cx := { N := 15, G := glob, C := tys, ad := fun d => false, wk := false, dp := true }
def F_impl_inRange (k : Nat) : FArg (.c (.val (.int .i64)) (.c (.val (.int .i64)) (.c (.val (.int .i64)) .e))) := fun x K => impl_inRange x.1 x.2.1 x.2.2.1 (fun (r0 : Bool) => K [⟨.bool, r0, true⟩])
theorem s_impl_inRange (k : Nat) : SoundF Tryd.prog glob 62 (ftab (.c (.val (.int .i64)) (.c (.val (.int .i64)) (.c (.val (.int .i64)) .e))) (F_impl_inRange k)) :=
  fun_ok (cx := cx_impl_inRange) (by kernel_rfl) ⟨types, (E_impl_readInt_ok k).1, (E_impl_readInt_ok k).2, mixed, rfl⟩ Tryd.func62 rfl (LoopsOK.nil) [] (by kernel_rfl) (fun x K => by kernel_rfl)
def E_impl_inRange (k : Nat) : Tbl := tcons 62 (ftab (.c (.val (.int .i64)) (.c (.val (.int .i64)) (.c (.val (.int .i64)) .e))) (F_impl_inRange k)) (E_impl_readInt k)
theorem E_impl_inRange_ok (k : Nat) : SoundE Tryd.prog glob (E_impl_inRange k) ∧ NatE (E_impl_inRange k) := tab_cons (s_impl_inRange k) (E_impl_readInt_ok k)
/-- impl.isResult -/
def cx_impl_isResult : Cx := { N := 5, G := glob, C := tys, ad := fun d => Nat.beq d 4, wk := false, dp := true }
def F_impl_isResult (k : Nat) : FArg (.c (.val (.int .i64)) .e) := fun x K => impl_isResult x.1 (fun (r0 : Bool) => K [⟨.bool, r0, true⟩])
theorem s_impl_isResult (k : Nat) : SoundF Tryd.prog glob 65 (ftab (.c (.val (.int .i64)) .e) (F_impl_isResult k)) :=
  fun_ok (cx := cx_impl_isResult) (by kernel_rfl) ⟨types, (E_impl_inRange_ok k).1, (E_impl_inRange_ok k).2, mixed, rfl⟩ Tryd.func65 rfl (LoopsOK.nil) [] (by kernel_rfl) (fun x K => by kernel_rfl)
def E_impl_isResult (k : Nat) : Tbl := tcons 65 (ftab (.c (.val (.int .i64)) .e) (F_impl_isResult k)) (E_impl_inRange k)
theorem E_impl_isResult_ok (k : Nat) : SoundE Tryd.prog glob (E_impl_isResult k) ∧ NatE (E_impl_isResult k) := tab_cons (s_impl_isResult k) (E_impl_inRange_ok k)
/-- impl.IsCombatTable$1 -/
def cx_impl_IsCombatTable_1 : Cx := { N := 6, G := glob, C := tys, ad := fun d => Nat.beq d 4, wk := false, dp := true }
def F_impl_IsCombatTable_1 (k : Nat) : FArg (.c (.val (.int .i64)) .e) := fun x K => impl_IsCombatTable_1 x.1 (fun (r0 : Bool) => K [⟨.bool, r0, true⟩])
theorem s_impl_IsCombatTable_1 (k : Nat) : SoundF Tryd.prog glob 64 (ftab (.c (.val (.int .i64)) .e) (F_impl_IsCombatTable_1 k)) :=
  fun_ok (cx := cx_impl_IsCombatTable_1) (by kernel_rfl) ⟨types, (E_impl_isResult_ok k).1, (E_impl_isResult_ok k).2, mixed, rfl⟩ Tryd.func64 rfl (LoopsOK.nil) [] (by kernel_rfl) (fun x K => by kernel_rfl)
def E_impl_IsCombatTable_1 (k : Nat) : Tbl := tcons 64 (ftab (.c (.val (.int .i64)) .e) (F_impl_IsCombatTable_1 k)) (E_impl_isResult k)
theorem E_impl_IsCombatTable_1_ok (k : Nat) : SoundE Tryd.prog glob (E_impl_IsCombatTable_1 k) ∧ NatE (E_impl_IsCombatTable_1 k) := tab_cons (s_impl_IsCombatTable_1 k) (E_impl_isResult_ok k)
/-- slices.IndexFunc[[]int,int] -/
def cx_slices_IndexFunc_Sint_int__impl_IsCombatTable_1 : Cx := { N := 19, G := glob, C := tys, ad := fun d => false, wk := false }
def sp_slices_IndexFunc_Sint_int__impl_IsCombatTable_1_l0 : LSp where
  cv := []
  ts := [(0, .val (.sl (.int .i64))), (1, .fn 64 .e), (7, .val (.int .i64)), (8, .val (.int .i64))]
  ids := []
  tx := fun e => match e with | .exit i => bif Nat.beq i 0 then [] else [] | .ret => [4] | .normal => []
  ix := fun e => match e with | .exit i => bif Nat.beq i 0 then [] else [] | .ret => [] | .normal => []
def F_slices_IndexFunc_Sint_int__impl_IsCombatTable_1_l0 (k : Nat) : LArg sp_slices_IndexFunc_Sint_int__impl_IsCombatTable_1_l0 := fun K n x y => slices_IndexFunc_Sint_int__impl_IsCombatTable_1_l0 k (K (.exit 0) (mkSt [] [])) (fun (y0 : Int) => K (.ret) (mkSt [(4, .val (.int .i64) y0)] [])) n x.1 x.2.2.1 x.2.2.2.1
def LO_slices_IndexFunc_Sint_int__impl_IsCombatTable_1_l0 (k : Nat) : LTbl := (lcons 2 (ltab sp_slices_IndexFunc_Sint_int__impl_IsCombatTable_1_l0 (F_slices_IndexFunc_Sint_int__impl_IsCombatTable_1_l0 k) k) lnil)
theorem lk_slices_IndexFunc_Sint_int__impl_IsCombatTable_1_l0 (k : Nat) : LoopsOK Tryd.prog glob (E_impl_IsCombatTable_1 k) cx_slices_IndexFunc_Sint_int__impl_IsCombatTable_1 (LO_slices_IndexFunc_Sint_int__impl_IsCombatTable_1_l0 k) ((2, (loopB Tryd.f99 2)) :: []) :=
  LoopsOK.cons (LoopsOK.nil) (E_impl_IsCombatTable_1_ok k).2 (F := F_slices_IndexFunc_Sint_int__impl_IsCombatTable_1_l0 k) k [] (by kernel_rfl) (by kernel_rfl) (fun K x y => rfl) (fun n x y K => by kernel_rfl)
def F_slices_IndexFunc_Sint_int__impl_IsCombatTable_1 (k : Nat) : FArg (.c (.val (.sl (.int .i64))) (.c (.fn 64 .e) .e)) := fun x K => slices_IndexFunc_Sint_int__impl_IsCombatTable_1 k x.1 (fun (r0 : Int) => K [⟨(.int .i64), r0, true⟩])
theorem s_slices_IndexFunc_Sint_int__impl_IsCombatTable_1 (k : Nat) : SoundF Tryd.prog glob 99 (ftab (.c (.val (.sl (.int .i64))) (.c (.fn 64 .e) .e)) (F_slices_IndexFunc_Sint_int__impl_IsCombatTable_1 k)) :=
  fun_ok (cx := cx_slices_IndexFunc_Sint_int__impl_IsCombatTable_1) (by kernel_rfl) ⟨types, (E_impl_IsCombatTable_1_ok k).1, (E_impl_IsCombatTable_1_ok k).2, mixed, rfl⟩ Tryd.func99 rfl (lk_slices_IndexFunc_Sint_int__impl_IsCombatTable_1_l0 k) [0] (by kernel_rfl) (fun x K => by kernel_rfl)
def E_slices_IndexFunc_Sint_int__impl_IsCombatTable_1 (k : Nat) : Tbl := tcons 99 (ftab (.c (.val (.sl (.int .i64))) (.c (.fn 64 .e) .e)) (F_slices_IndexFunc_Sint_int__impl_IsCombatTable_1 k)) (E_impl_IsCombatTable_1 k)
theorem E_slices_IndexFunc_Sint_int__impl_IsCombatTable_1_ok (k : Nat) : SoundE Tryd.prog glob (E_slices_IndexFunc_Sint_int__impl_IsCombatTable_1 k) ∧ NatE (E_slices_IndexFunc_Sint_int__impl_IsCombatTable_1 k) := tab_cons (s_slices_IndexFunc_Sint_int__impl_IsCombatTable_1 k) (E_impl_IsCombatTable_1_ok k)
/-- slices.ContainsFunc[[]int,int] -/
def cx_slices_ContainsFunc_Sint_int__impl_IsCombatTable_1 : Cx := { N := 9, G := glob, C := tys, ad := fun d => false, wk := false }
def F_slices_ContainsFunc_Sint_int__impl_IsCombatTable_1 (k : Nat) : FArg (.c (.val (.sl (.int .i64))) (.c (.fn 64 .e) .e)) := fun x K => slices_ContainsFunc_Sint_int__impl_IsCombatTable_1 k x.1 (fun (r0 : Bool) => K [⟨.bool, r0, true⟩])
theorem s_slices_ContainsFunc_Sint_int__impl_IsCombatTable_1 (k : Nat) : SoundF Tryd.prog glob 63 (ftab (.c (.val (.sl (.int .i64))) (.c (.fn 64 .e) .e)) (F_slices_ContainsFunc_Sint_int__impl_IsCombatTable_1 k)) :=
  fun_ok (cx := cx_slices_ContainsFunc_Sint_int__impl_IsCombatTable_1) (by kernel_rfl) ⟨types, (E_slices_IndexFunc_Sint_int__impl_IsCombatTable_1_ok k).1, (E_slices_IndexFunc_Sint_int__impl_IsCombatTable_1_ok k).2, mixed, rfl⟩ Tryd.func63 rfl (LoopsOK.nil) [] (by kernel_rfl) (fun x K => by kernel_rfl)
def E_slices_ContainsFunc_Sint_int__impl_IsCombatTable_1 (k : Nat) : Tbl := tcons 63 (ftab (.c (.val (.sl (.int .i64))) (.c (.fn 64 .e) .e)) (F_slices_ContainsFunc_Sint_int__impl_IsCombatTable_1 k)) (E_slices_IndexFunc_Sint_int__impl_IsCombatTable_1 k)
theorem E_slices_ContainsFunc_Sint_int__impl_IsCombatTable_1_ok (k : Nat) : SoundE Tryd.prog glob (E_slices_ContainsFunc_Sint_int__impl_IsCombatTable_1 k) ∧ NatE (E_slices_ContainsFunc_Sint_int__impl_IsCombatTable_1 k) := tab_cons (s_slices_ContainsFunc_Sint_int__impl_IsCombatTable_1 k) (E_slices_IndexFunc_Sint_int__impl_IsCombatTable_1_ok k)
/-- impl.IsCombatTable -/
def cx_impl_IsCombatTable : Cx := { N := 90, G := glob, C := tys, ad := fun d => Nat.beq d 10 || Nat.beq d 15 || Nat.beq d 38 || Nat.beq d 43 || Nat.beq d 87, wk := false, dp := true }
def sp_impl_IsCombatTable_l0 : LSp where
  cv := []
  ts := [(1, .ptr 1), (29, .val (.sl (.st (.pair (.int .i64) (.int .i64))))), (30, .val (.int .i64)), (31, .val (.int .i64))]
  ids := [(1, .box (.st (.pair (.sl (.st (.pair (.int .i64) (.int .i64)))) (.pair (.int .i64) (.sl (.sl (.int .i64)))))) (.val (.st (.pair (.sl (.st (.pair (.int .i64) (.int .i64)))) (.pair (.int .i64) (.sl (.sl (.int .i64))))))))]
  tx := fun e => match e with | .exit i => bif Nat.beq i 0 then [1] else [] | .ret => [2] | .normal => []
  ix := fun e => match e with | .exit i => bif Nat.beq i 0 then [1] else [] | .ret => [] | .normal => []
def F_impl_IsCombatTable_l0 (k : Nat) : LArg sp_impl_IsCombatTable_l0 := fun K n x y => impl_IsCombatTable_l0 k (fun (y0 : (List (Int × Int)) × Int × List (List Int)) => K (.exit 0) (mkSt [(1, .ptr 1 1 [])] [(1, some (.box (.st (.pair (.sl (.st (.pair (.int .i64) (.int .i64)))) (.pair (.int .i64) (.sl (.sl (.int .i64)))))) (.val (.st (.pair (.sl (.st (.pair (.int .i64) (.int .i64)))) (.pair (.int .i64) (.sl (.sl (.int .i64)))))) y0)))])) (fun (y0 : Bool) => K (.ret) (mkSt [(2, .val .bool y0)] [])) n x.2.1 x.2.2.1 x.2.2.2.1 y.1
def LO_impl_IsCombatTable_l0 (k : Nat) : LTbl := (lcons 4 (ltab sp_impl_IsCombatTable_l0 (F_impl_IsCombatTable_l0 k) k) lnil)
theorem lk_impl_IsCombatTable_l0 (k : Nat) : LoopsOK Tryd.prog glob (E_slices_ContainsFunc_Sint_int__impl_IsCombatTable_1 k) cx_impl_IsCombatTable (LO_impl_IsCombatTable_l0 k) ((4, (loopB Tryd.f27 4)) :: []) :=
  LoopsOK.cons (LoopsOK.nil) (E_slices_ContainsFunc_Sint_int__impl_IsCombatTable_1_ok k).2 (F := F_impl_IsCombatTable_l0 k) k [] (by kernel_rfl) (by kernel_rfl) (fun K x y => rfl) (fun n x y K => by kernel_rfl)
def sp_impl_IsCombatTable_l1 : LSp where
  cv := []
  ts := [(1, .ptr 1), (73, .val (.sl (.sl (.int .i64)))), (74, .val (.int .i64)), (75, .val (.int .i64))]
  ids := [(1, .box (.st (.pair (.sl (.st (.pair (.int .i64) (.int .i64)))) (.pair (.int .i64) (.sl (.sl (.int .i64)))))) (.val (.st (.pair (.sl (.st (.pair (.int .i64) (.int .i64)))) (.pair (.int .i64) (.sl (.sl (.int .i64))))))))]
  tx := fun e => match e with | .exit i => bif Nat.beq i 2 then [] else [] | .ret => [2] | .normal => []
  ix := fun e => match e with | .exit i => bif Nat.beq i 2 then [] else [] | .ret => [] | .normal => []
def F_impl_IsCombatTable_l1 (k : Nat) : LArg sp_impl_IsCombatTable_l1 := fun K n x y => impl_IsCombatTable_l1 k (K (.exit 2) (mkSt [] [])) (fun (y0 : Bool) => K (.ret) (mkSt [(2, .val .bool y0)] [])) n x.2.1 x.2.2.1 x.2.2.2.1 y.1
def LO_impl_IsCombatTable_l1 (k : Nat) : LTbl := (lcons 12 (ltab sp_impl_IsCombatTable_l1 (F_impl_IsCombatTable_l1 k) k) (LO_impl_IsCombatTable_l0 k))
theorem lk_impl_IsCombatTable_l1 (k : Nat) : LoopsOK Tryd.prog glob (E_slices_ContainsFunc_Sint_int__impl_IsCombatTable_1 k) cx_impl_IsCombatTable (LO_impl_IsCombatTable_l1 k) ((12, (loopB Tryd.f27 12)) :: ((4, (loopB Tryd.f27 4)) :: [])) :=
  LoopsOK.cons (lk_impl_IsCombatTable_l0 k) (E_slices_ContainsFunc_Sint_int__impl_IsCombatTable_1_ok k).2 (F := F_impl_IsCombatTable_l1 k) k [] (by kernel_rfl) (by kernel_rfl) (fun K x y => rfl) (fun n x y K => by kernel_rfl)
def F_impl_IsCombatTable (k : Nat) : FArg (.c (.val (.st (.pair (.sl (.st (.pair (.int .i64) (.int .i64)))) (.pair (.int .i64) (.sl (.sl (.int .i64))))))) .e) := fun x K => impl_IsCombatTable k x.1 (fun (r0 : Bool) => K [⟨.bool, r0, true⟩])
theorem s_impl_IsCombatTable (k : Nat) : SoundF Tryd.prog glob 27 (ftab (.c (.val (.st (.pair (.sl (.st (.pair (.int .i64) (.int .i64)))) (.pair (.int .i64) (.sl (.sl (.int .i64))))))) .e) (F_impl_IsCombatTable k)) :=
  fun_ok (cx := cx_impl_IsCombatTable) (by kernel_rfl) ⟨types, (E_slices_ContainsFunc_Sint_int__impl_IsCombatTable_1_ok k).1, (E_slices_ContainsFunc_Sint_int__impl_IsCombatTable_1_ok k).2, mixed, rfl⟩ Tryd.func27 rfl (lk_impl_IsCombatTable_l1 k) [1, 0] (by kernel_rfl) (fun x K => by kernel_rfl)
def E_impl_IsCombatTable (k : Nat) : Tbl := tcons 27 (ftab (.c (.val (.st (.pair (.sl (.st (.pair (.int .i64) (.int .i64)))) (.pair (.int .i64) (.sl (.sl (.int .i64))))))) .e) (F_impl_IsCombatTable k)) (E_slices_ContainsFunc_Sint_int__impl_IsCombatTable_1 k)
theorem E_impl_IsCombatTable_ok (k : Nat) : SoundE Tryd.prog glob (E_impl_IsCombatTable k) ∧ NatE (E_impl_IsCombatTable k) := tab_cons (s_impl_IsCombatTable k) (E_slices_ContainsFunc_Sint_int__impl_IsCombatTable_1_ok k)
/-- strconv.Itoa -/
def F_strconv_Itoa (k : Nat) : FArg (.c (.val (.int .i64)) .e) := fun x K => strconv_Itoa x.1 fun r => K [⟨.str, r, true⟩]
theorem s_strconv_Itoa (k : Nat) : SoundF Tryd.prog glob 61 (ftab (.c (.val (.int .i64)) .e) (F_strconv_Itoa k)) := itoa_sound (g := 5) (by kernel_rfl) (by kernel_rfl) rfl (fun n h0 h1 w ht => Tryd.strconv_Itoa n h0 h1 w ht)
def E_strconv_Itoa (k : Nat) : Tbl := tcons 61 (ftab (.c (.val (.int .i64)) .e) (F_strconv_Itoa k)) (E_impl_IsCombatTable k)
theorem E_strconv_Itoa_ok (k : Nat) : SoundE Tryd.prog glob (E_strconv_Itoa k) ∧ NatE (E_strconv_Itoa k) := tab_cons (s_strconv_Itoa k) (E_impl_IsCombatTable_ok k)
/-- strings.Join -/
def F_strings_Join (k : Nat) : FArg (.c (.val (.sl .str)) (.c (.val .str) .e)) := fun x K => strings_Join x.1 x.2.1 fun r => K [⟨.str, r, true⟩]
theorem s_strings_Join (k : Nat) : SoundF Tryd.prog glob 100 (ftab (.c (.val (.sl .str)) (.c (.val .str) .e)) (F_strings_Join k)) := join_sound (by kernel_rfl) (fun a c sep w => Tryd.strings_Join_none a c sep w) (fun bk o c xs sep w h1 h2 h3 h4 h5 => Tryd.strings_Join bk o c xs sep w h1 h2 h3 h4 h5)
def E_strings_Join (k : Nat) : Tbl := tcons 100 (ftab (.c (.val (.sl .str)) (.c (.val .str) .e)) (F_strings_Join k)) (E_strconv_Itoa k)
theorem E_strings_Join_ok (k : Nat) : SoundE Tryd.prog glob (E_strings_Join k) ∧ NatE (E_strings_Join k) := tab_cons (s_strings_Join k) (E_strconv_Itoa_ok k)
/-- impl.wordsText -/
def cx_impl_wordsText : Cx := { N := 24, G := glob, C := tys, ad := fun d => Nat.beq d 18 || Nat.beq d 23, wk := false, dp := true }
def sp_impl_wordsText_l0 : LSp where
  cv := []
  ts := [(5, .own 9), (10, .val (.sl (.int .i64))), (11, .val (.int .i64)), (12, .val (.int .i64))]
  ids := [(9, .row .str)]
  tx := fun e => match e with | .exit i => bif Nat.beq i 0 then [5] else [] | .ret => [] | .normal => []
  ix := fun e => match e with | .exit i => bif Nat.beq i 0 then [9] else [] | .ret => [] | .normal => []
def F_impl_wordsText_l0 (k : Nat) : LArg sp_impl_wordsText_l0 := fun K n x y => impl_wordsText_l0 k (fun (y0 : List ByteArray) => K (.exit 0) (mkSt [(5, .own 9 1)] [(9, some (.row .str y0))])) n x.2.1 x.2.2.1 x.2.2.2.1 y.1
def LO_impl_wordsText_l0 (k : Nat) : LTbl := (lcons 3 (ltab sp_impl_wordsText_l0 (F_impl_wordsText_l0 k) k) lnil)
theorem lk_impl_wordsText_l0 (k : Nat) : LoopsOK Tryd.prog glob (E_strings_Join k) cx_impl_wordsText (LO_impl_wordsText_l0 k) ((3, (loopB Tryd.f66 3)) :: []) :=
  LoopsOK.cons (LoopsOK.nil) (E_strings_Join_ok k).2 (F := F_impl_wordsText_l0 k) k [] (by kernel_rfl) (by kernel_rfl) (fun K x y => rfl) (fun n x y K => by kernel_rfl)
def F_impl_wordsText (k : Nat) : FArg (.c (.val .str) (.c (.val (.sl (.int .i64))) .e)) := fun x K => impl_wordsText k x.1 x.2.1 (fun (r0 : ByteArray) => K [⟨.str, r0, true⟩])
theorem s_impl_wordsText (k : Nat) : SoundF Tryd.prog glob 66 (ftab (.c (.val .str) (.c (.val (.sl (.int .i64))) .e)) (F_impl_wordsText k)) :=
  fun_ok (cx := cx_impl_wordsText) (by kernel_rfl) ⟨types, (E_strings_Join_ok k).1, (E_strings_Join_ok k).2, mixed, rfl⟩ Tryd.func66 rfl (lk_impl_wordsText_l0 k) [0] (by kernel_rfl) (fun x K => by kernel_rfl)
def E_impl_wordsText (k : Nat) : Tbl := tcons 66 (ftab (.c (.val .str) (.c (.val (.sl (.int .i64))) .e)) (F_impl_wordsText k)) (E_strings_Join k)
theorem E_impl_wordsText_ok (k : Nat) : SoundE Tryd.prog glob (E_impl_wordsText k) ∧ NatE (E_impl_wordsText k) := tab_cons (s_impl_wordsText k) (E_strings_Join_ok k)
/-- impl.tableText -/
def cx_impl_tableText : Cx := { N := 58, G := glob, C := tys, ad := fun d => Nat.beq d 33 || Nat.beq d 51, wk := false, dp := true }
def sp_impl_tableText_l0 : LSp where
  cv := []
  ts := [(1, .ptr 1), (3, .val .str), (11, .val (.sl (.st (.pair (.int .i64) (.int .i64))))), (12, .val (.int .i64)), (13, .val (.int .i64))]
  ids := [(1, .box (.st (.pair (.sl (.st (.pair (.int .i64) (.int .i64)))) (.pair (.int .i64) (.sl (.sl (.int .i64)))))) (.val (.st (.pair (.sl (.st (.pair (.int .i64) (.int .i64)))) (.pair (.int .i64) (.sl (.sl (.int .i64))))))))]
  tx := fun e => match e with | .exit i => bif Nat.beq i 0 then [1, 3] else [] | .ret => [] | .normal => []
  ix := fun e => match e with | .exit i => bif Nat.beq i 0 then [1] else [] | .ret => [] | .normal => []
def F_impl_tableText_l0 (k : Nat) : LArg sp_impl_tableText_l0 := fun K n x y => impl_tableText_l0 k (fun (y0 : ByteArray) (y1 : (List (Int × Int)) × Int × List (List Int)) => K (.exit 0) (mkSt [(1, .ptr 1 1 []), (3, .val .str y0)] [(1, some (.box (.st (.pair (.sl (.st (.pair (.int .i64) (.int .i64)))) (.pair (.int .i64) (.sl (.sl (.int .i64)))))) (.val (.st (.pair (.sl (.st (.pair (.int .i64) (.int .i64)))) (.pair (.int .i64) (.sl (.sl (.int .i64)))))) y1)))])) n x.2.1 x.2.2.1 x.2.2.2.1 x.2.2.2.2.1 y.1
def LO_impl_tableText_l0 (k : Nat) : LTbl := (lcons 3 (ltab sp_impl_tableText_l0 (F_impl_tableText_l0 k) k) lnil)
theorem lk_impl_tableText_l0 (k : Nat) : LoopsOK Tryd.prog glob (E_impl_wordsText k) cx_impl_tableText (LO_impl_tableText_l0 k) ((3, (loopB Tryd.f28 3)) :: []) :=
  LoopsOK.cons (LoopsOK.nil) (E_impl_wordsText_ok k).2 (F := F_impl_tableText_l0 k) k [] (by kernel_rfl) (by kernel_rfl) (fun K x y => rfl) (fun n x y K => by kernel_rfl)
def sp_impl_tableText_l1 : LSp where
  cv := []
  ts := [(3, .val .str), (37, .val (.sl (.sl (.int .i64)))), (38, .val (.int .i64)), (39, .val (.int .i64)), (43, .val (.sl (.int .i64))), (44, .val (.int .i64)), (45, .val (.int .i64))]
  ids := []
  tx := fun e => match e with | .exit i => bif Nat.beq i 4 then [3, 37, 38, 39] else [] | .ret => [] | .normal => []
  ix := fun e => match e with | .exit i => bif Nat.beq i 4 then [] else [] | .ret => [] | .normal => []
def F_impl_tableText_l1 (k : Nat) : LArg sp_impl_tableText_l1 := fun K n x y => impl_tableText_l1 k (fun (y0 : ByteArray) (y1 : List (List Int)) (y2 : Int) (y3 : Int) => K (.exit 4) (mkSt [(3, .val .str y0), (37, .val (.sl (.sl (.int .i64))) y1), (38, .val (.int .i64) y2), (39, .val (.int .i64) y3)] [])) n x.1 x.2.1 x.2.2.1 x.2.2.2.1 x.2.2.2.2.1 x.2.2.2.2.2.1 x.2.2.2.2.2.2.1
def LO_impl_tableText_l1 (k : Nat) : LTbl := (lcons 12 (ltab sp_impl_tableText_l1 (F_impl_tableText_l1 k) k) (LO_impl_tableText_l0 k))
theorem lk_impl_tableText_l1 (k : Nat) : LoopsOK Tryd.prog glob (E_impl_wordsText k) cx_impl_tableText (LO_impl_tableText_l1 k) ((12, (loopB Tryd.f28 12)) :: ((3, (loopB Tryd.f28 3)) :: [])) :=
  LoopsOK.cons (lk_impl_tableText_l0 k) (E_impl_wordsText_ok k).2 (F := F_impl_tableText_l1 k) k [] (by kernel_rfl) (by kernel_rfl) (fun K x y => rfl) (fun n x y K => by kernel_rfl)
def sp_impl_tableText_l2 : LSp where
  cv := []
  ts := [(3, .val .str), (37, .val (.sl (.sl (.int .i64)))), (38, .val (.int .i64)), (39, .val (.int .i64))]
  ids := []
  tx := fun e => match e with | .exit i => bif Nat.beq i 2 then [3] else [] | .ret => [] | .normal => []
  ix := fun e => match e with | .exit i => bif Nat.beq i 2 then [] else [] | .ret => [] | .normal => []
def F_impl_tableText_l2 (k : Nat) : LArg sp_impl_tableText_l2 := fun K n x y => impl_tableText_l2 k (fun (y0 : ByteArray) => K (.exit 2) (mkSt [(3, .val .str y0)] [])) n x.1 x.2.1 x.2.2.1 x.2.2.2.1
def LO_impl_tableText_l2 (k : Nat) : LTbl := (lcons 9 (ltab sp_impl_tableText_l2 (F_impl_tableText_l2 k) k) (LO_impl_tableText_l1 k))
theorem lk_impl_tableText_l2 (k : Nat) : LoopsOK Tryd.prog glob (E_impl_wordsText k) cx_impl_tableText (LO_impl_tableText_l2 k) ((9, (loopB Tryd.f28 9)) :: ((12, (loopB Tryd.f28 12)) :: ((3, (loopB Tryd.f28 3)) :: []))) :=
  LoopsOK.cons (lk_impl_tableText_l1 k) (E_impl_wordsText_ok k).2 (F := F_impl_tableText_l2 k) k [0] (by kernel_rfl) (by kernel_rfl) (fun K x y => rfl) (fun n x y K => by kernel_rfl)
def F_impl_tableText (k : Nat) : FArg (.c (.val (.st (.pair (.sl (.st (.pair (.int .i64) (.int .i64)))) (.pair (.int .i64) (.sl (.sl (.int .i64))))))) .e) := fun x K => impl_tableText k x.1 (fun (r0 : ByteArray) => K [⟨.str, r0, true⟩])
theorem s_impl_tableText (k : Nat) : SoundF Tryd.prog glob 28 (ftab (.c (.val (.st (.pair (.sl (.st (.pair (.int .i64) (.int .i64)))) (.pair (.int .i64) (.sl (.sl (.int .i64))))))) .e) (F_impl_tableText k)) :=
  fun_ok (cx := cx_impl_tableText) (by kernel_rfl) ⟨types, (E_impl_wordsText_ok k).1, (E_impl_wordsText_ok k).2, mixed, rfl⟩ Tryd.func28 rfl (lk_impl_tableText_l2 k) [2, 0] (by kernel_rfl) (fun x K => by kernel_rfl)
def E_impl_tableText (k : Nat) : Tbl := tcons 28 (ftab (.c (.val (.st (.pair (.sl (.st (.pair (.int .i64) (.int .i64)))) (.pair (.int .i64) (.sl (.sl (.int .i64))))))) .e) (F_impl_tableText k)) (E_impl_wordsText k)
theorem E_impl_tableText_ok (k : Nat) : SoundE Tryd.prog glob (E_impl_tableText k) ∧ NatE (E_impl_tableText k) := tab_cons (s_impl_tableText k) (E_impl_wordsText_ok k)
/-- impl.ParseTable -/
def cx_impl_ParseTable : Cx := { N := 132, G := glob, C := tys, ad := fun d => Nat.beq d 48 || Nat.beq d 54 || Nat.beq d 59 || Nat.beq d 85 || Nat.beq d 122 || Nat.beq d 126, wk := false, dp := true }
def sp_impl_ParseTable_l0 : LSp where
  cv := [(10000200, 2200040, (.st (.pair (.int .i64) (.int .i64)))), (10000202, 2700042, (.sl (.int .i64))), (10000600, 2200120, (.st (.pair (.int .i64) (.int .i64)))), (10000602, 2700122, (.sl (.int .i64)))]
  ts := [(0, .val .str), (2, .ptr 2), (4, .val (.sl .str)), (5, .val (.sl .str)), (6, .ptr 6), (40, .val (.sl .str)), (41, .val (.int .i64)), (42, .val (.int .i64))]
  ids := [(2, .box (.st (.pair (.sl (.st (.pair (.int .i64) (.int .i64)))) (.pair (.int .i64) (.sl (.sl (.int .i64)))))) (.agg (.c (.own 2200040) (.c (.val (.int .i64)) (.c (.own 2700042) .e))))), (6, .box (.st (.pair (.sl (.st (.pair (.int .i64) (.int .i64)))) (.pair (.int .i64) (.sl (.sl (.int .i64)))))) (.agg (.c (.own 2200120) (.c (.val (.int .i64)) (.c (.own 2700122) .e))))), (2200040, .row (.st (.pair (.int .i64) (.int .i64)))), (2700042, .deep (.sl (.int .i64))), (2200120, .row (.st (.pair (.int .i64) (.int .i64)))), (2700122, .deep (.sl (.int .i64)))]
  tx := fun e => match e with | .exit i => bif Nat.beq i 0 then [0, 2, 4, 5, 6] else [] | .ret => [2, 3] | .normal => []
  ix := fun e => match e with | .exit i => bif Nat.beq i 0 then [2, 6, 2200040, 2700042, 2200120, 2700122] else [] | .ret => [2] | .normal => []
def F_impl_ParseTable_l0 (k : Nat) : LArg sp_impl_ParseTable_l0 := fun K n x y => impl_ParseTable_l0 k (fun (y0 : ByteArray) (y1 : List ByteArray) (y2 : List ByteArray) (y3 : Int) (y4 : Int) (y5 : List (Int × Int)) (y6 : List (List Int)) (y7 : List (Int × Int)) (y8 : List (List Int)) => K (.exit 0) (mkSt [(0, .val .str y0), (2, .ptr 2 1 []), (4, .val (.sl .str) y1), (5, .val (.sl .str) y2), (6, .ptr 6 1 [])] [(2, some (.box (.st (.pair (.sl (.st (.pair (.int .i64) (.int .i64)))) (.pair (.int .i64) (.sl (.sl (.int .i64)))))) (.agg [.own 2200040 1, .val (.int .i64) y3, .own 2700042 1]))), (6, some (.box (.st (.pair (.sl (.st (.pair (.int .i64) (.int .i64)))) (.pair (.int .i64) (.sl (.sl (.int .i64)))))) (.agg [.own 2200120 1, .val (.int .i64) y4, .own 2700122 1]))), (2200040, some (.row (.st (.pair (.int .i64) (.int .i64))) y5)), (2700042, some (.deep (.sl (.int .i64)) y6 0)), (2200120, some (.row (.st (.pair (.int .i64) (.int .i64))) y7)), (2700122, some (.deep (.sl (.int .i64)) y8 0))])) (fun (y0 : Bool) (y1 : Int) => K (.ret) (mkSt [(2, .ptr 2 1 []), (3, .val .bool y0)] [(2, some (.box (.st (.pair (.sl (.st (.pair (.int .i64) (.int .i64)))) (.pair (.int .i64) (.sl (.sl (.int .i64)))))) (.agg [.nil, .val (.int .i64) y1, .nil])))])) n x.1 x.2.2.1 x.2.2.2.1 x.2.2.2.2.2.1 x.2.2.2.2.2.2.1 x.2.2.2.2.2.2.2.1 y.1.2.1 y.2.1.2.1 y.2.2.1 y.2.2.2.1 y.2.2.2.2.1 y.2.2.2.2.2.1
def LO_impl_ParseTable_l0 (k : Nat) : LTbl := (lcons 7 (ltab sp_impl_ParseTable_l0 (F_impl_ParseTable_l0 k) k) lnil)
theorem lk_impl_ParseTable_l0 (k : Nat) : LoopsOK Tryd.prog glob (E_impl_tableText k) cx_impl_ParseTable (LO_impl_ParseTable_l0 k) ((7, (loopB Tryd.f8 7)) :: []) :=
  LoopsOK.cons (LoopsOK.nil) (E_impl_tableText_ok k).2 (F := F_impl_ParseTable_l0 k) k [] (by kernel_rfl) (by kernel_rfl) (fun K x y => rfl) (fun n x y K => by kernel_rfl)
def sp_impl_ParseTable_l1 : LSp where
  cv := []
  ts := [(0, .val .str), (2, .ptr 2), (6, .ptr 6), (17, .val .str), (18, .own 99), (19, .val (.int .i64)), (93, .val (.sl .str)), (94, .val (.int .i64)), (95, .val (.int .i64))]
  ids := [(2, .box (.st (.pair (.sl (.st (.pair (.int .i64) (.int .i64)))) (.pair (.int .i64) (.sl (.sl (.int .i64)))))) (.agg (.c (.own 2200040) (.c (.val (.int .i64)) (.c (.own 2700042) .e))))), (6, .box (.st (.pair (.sl (.st (.pair (.int .i64) (.int .i64)))) (.pair (.int .i64) (.sl (.sl (.int .i64)))))) (.agg (.c (.own 2200120) (.c (.val (.int .i64)) (.c (.own 2700122) .e))))), (99, .row (.int .i64)), (2200040, .row (.st (.pair (.int .i64) (.int .i64)))), (2700042, .deep (.sl (.int .i64))), (2200120, .row (.st (.pair (.int .i64) (.int .i64)))), (2700122, .deep (.sl (.int .i64)))]
  tx := fun e => match e with | .exit i => bif Nat.beq i 4 then [0, 2, 6, 18, 93, 94, 95] else [] | .ret => [] | .normal => []
  ix := fun e => match e with | .exit i => bif Nat.beq i 4 then [2, 6, 99, 2200040, 2700042, 2200120, 2700122] else [] | .ret => [] | .normal => []
def F_impl_ParseTable_l1 (k : Nat) : LArg sp_impl_ParseTable_l1 := fun K n x y => impl_ParseTable_l1 k (fun (y0 : ByteArray) (y1 : List ByteArray) (y2 : Int) (y3 : Int) (y4 : Int) (y5 : Int) (y6 : List Int) (y7 : List (Int × Int)) (y8 : List (List Int)) (y9 : List (Int × Int)) (y10 : List (List Int)) => K (.exit 4) (mkSt [(0, .val .str y0), (2, .ptr 2 1 []), (6, .ptr 6 1 []), (18, .own 99 1), (93, .val (.sl .str) y1), (94, .val (.int .i64) y2), (95, .val (.int .i64) y3)] [(2, some (.box (.st (.pair (.sl (.st (.pair (.int .i64) (.int .i64)))) (.pair (.int .i64) (.sl (.sl (.int .i64)))))) (.agg [.own 2200040 1, .val (.int .i64) y4, .own 2700042 1]))), (6, some (.box (.st (.pair (.sl (.st (.pair (.int .i64) (.int .i64)))) (.pair (.int .i64) (.sl (.sl (.int .i64)))))) (.agg [.own 2200120 1, .val (.int .i64) y5, .own 2700122 1]))), (99, some (.row (.int .i64) y6)), (2200040, some (.row (.st (.pair (.int .i64) (.int .i64))) y7)), (2700042, some (.deep (.sl (.int .i64)) y8 0)), (2200120, some (.row (.st (.pair (.int .i64) (.int .i64))) y9)), (2700122, some (.deep (.sl (.int .i64)) y10 0))])) n x.1 x.2.2.2.1 x.2.2.2.2.2.1 x.2.2.2.2.2.2.1 x.2.2.2.2.2.2.2.1 x.2.2.2.2.2.2.2.2.1 y.1.2.1 y.2.1.2.1 y.2.2.1 y.2.2.2.1 y.2.2.2.2.1 y.2.2.2.2.2.1 y.2.2.2.2.2.2.1
def LO_impl_ParseTable_l1 (k : Nat) : LTbl := (lcons 22 (ltab sp_impl_ParseTable_l1 (F_impl_ParseTable_l1 k) k) (LO_impl_ParseTable_l0 k))
theorem lk_impl_ParseTable_l1 (k : Nat) : LoopsOK Tryd.prog glob (E_impl_tableText k) cx_impl_ParseTable (LO_impl_ParseTable_l1 k) ((22, (loopB Tryd.f8 22)) :: ((7, (loopB Tryd.f8 7)) :: [])) :=
  LoopsOK.cons (lk_impl_ParseTable_l0 k) (E_impl_tableText_ok k).2 (F := F_impl_ParseTable_l1 k) k [] (by kernel_rfl) (by kernel_rfl) (fun K x y => rfl) (fun n x y K => by kernel_rfl)
def sp_impl_ParseTable_l2 : LSp where
  cv := []
  ts := [(0, .val .str), (2, .ptr 2), (6, .ptr 6), (93, .val (.sl .str)), (94, .val (.int .i64)), (95, .val (.int .i64))]
  ids := [(2, .box (.st (.pair (.sl (.st (.pair (.int .i64) (.int .i64)))) (.pair (.int .i64) (.sl (.sl (.int .i64)))))) (.agg (.c (.own 2200040) (.c (.val (.int .i64)) (.c (.own 2700042) .e))))), (6, .box (.st (.pair (.sl (.st (.pair (.int .i64) (.int .i64)))) (.pair (.int .i64) (.sl (.sl (.int .i64)))))) (.agg (.c (.own 2200120) (.c (.val (.int .i64)) (.c (.own 2700122) .e))))), (2200040, .row (.st (.pair (.int .i64) (.int .i64)))), (2700042, .deep (.sl (.int .i64))), (2200120, .row (.st (.pair (.int .i64) (.int .i64)))), (2700122, .deep (.sl (.int .i64)))]
  tx := fun e => match e with | .exit i => bif Nat.beq i 2 then [0, 2, 6] else [] | .ret => [] | .normal => []
  ix := fun e => match e with | .exit i => bif Nat.beq i 2 then [2, 6, 2200040, 2700042, 2200120, 2700122] else [] | .ret => [] | .normal => []
def F_impl_ParseTable_l2 (k : Nat) : LArg sp_impl_ParseTable_l2 := fun K n x y => impl_ParseTable_l2 k (fun (y0 : ByteArray) (y1 : Int) (y2 : Int) (y3 : List (Int × Int)) (y4 : List (List Int)) (y5 : List (Int × Int)) (y6 : List (List Int)) => K (.exit 2) (mkSt [(0, .val .str y0), (2, .ptr 2 1 []), (6, .ptr 6 1 [])] [(2, some (.box (.st (.pair (.sl (.st (.pair (.int .i64) (.int .i64)))) (.pair (.int .i64) (.sl (.sl (.int .i64)))))) (.agg [.own 2200040 1, .val (.int .i64) y1, .own 2700042 1]))), (6, some (.box (.st (.pair (.sl (.st (.pair (.int .i64) (.int .i64)))) (.pair (.int .i64) (.sl (.sl (.int .i64)))))) (.agg [.own 2200120 1, .val (.int .i64) y2, .own 2700122 1]))), (2200040, some (.row (.st (.pair (.int .i64) (.int .i64))) y3)), (2700042, some (.deep (.sl (.int .i64)) y4 0)), (2200120, some (.row (.st (.pair (.int .i64) (.int .i64))) y5)), (2700122, some (.deep (.sl (.int .i64)) y6 0))])) n x.1 x.2.2.2.1 x.2.2.2.2.1 x.2.2.2.2.2.1 y.1.2.1 y.2.1.2.1 y.2.2.1 y.2.2.2.1 y.2.2.2.2.1 y.2.2.2.2.2.1
def LO_impl_ParseTable_l2 (k : Nat) : LTbl := (lcons 18 (ltab sp_impl_ParseTable_l2 (F_impl_ParseTable_l2 k) k) (LO_impl_ParseTable_l1 k))
theorem lk_impl_ParseTable_l2 (k : Nat) : LoopsOK Tryd.prog glob (E_impl_tableText k) cx_impl_ParseTable (LO_impl_ParseTable_l2 k) ((18, (loopB Tryd.f8 18)) :: ((22, (loopB Tryd.f8 22)) :: ((7, (loopB Tryd.f8 7)) :: []))) :=
  LoopsOK.cons (lk_impl_ParseTable_l1 k) (E_impl_tableText_ok k).2 (F := F_impl_ParseTable_l2 k) k [0] (by kernel_rfl) (by kernel_rfl) (fun K x y => rfl) (fun n x y K => by kernel_rfl)
def F_impl_ParseTable (k : Nat) : FArg (.c (.val .str) .e) := fun x K => impl_ParseTable k x.1 (fun (r0 : (List (Int × Int)) × Int × List (List Int)) (r1 : Bool) => K [⟨(.st (.pair (.sl (.st (.pair (.int .i64) (.int .i64)))) (.pair (.int .i64) (.sl (.sl (.int .i64)))))), r0, true⟩, ⟨.bool, r1, true⟩])
theorem s_impl_ParseTable (k : Nat) : SoundF Tryd.prog glob 8 (ftab (.c (.val .str) .e) (F_impl_ParseTable k)) :=
  fun_ok (cx := cx_impl_ParseTable) (by kernel_rfl) ⟨types, (E_impl_tableText_ok k).1, (E_impl_tableText_ok k).2, mixed, rfl⟩ Tryd.func8 rfl (lk_impl_ParseTable_l2 k) [2, 0] (by kernel_rfl) (fun x K => by kernel_rfl)
def E_impl_ParseTable (k : Nat) : Tbl := tcons 8 (ftab (.c (.val .str) .e) (F_impl_ParseTable k)) (E_impl_tableText k)
theorem E_impl_ParseTable_ok (k : Nat) : SoundE Tryd.prog glob (E_impl_ParseTable k) ∧ NatE (E_impl_ParseTable k) := tab_cons (s_impl_ParseTable k) (E_impl_tableText_ok k)
/-- laws.eqOdds -/
def cx_laws_eqOdds : Cx := { N := 15, G := glob, C := tys, ad := fun d => false, wk := false }
def F_laws_eqOdds (k : Nat) : FArg (.c (.val (.st (.pair (.int .i64) (.int .i64)))) (.c (.val (.st (.pair (.int .i64) (.int .i64)))) .e)) := fun x K => laws_eqOdds x.1 x.2.1 (fun (r0 : Bool) => K [⟨.bool, r0, true⟩])
theorem s_laws_eqOdds (k : Nat) : SoundF Tryd.prog glob 67 (ftab (.c (.val (.st (.pair (.int .i64) (.int .i64)))) (.c (.val (.st (.pair (.int .i64) (.int .i64)))) .e)) (F_laws_eqOdds k)) :=
  fun_ok (cx := cx_laws_eqOdds) (by kernel_rfl) ⟨types, (E_impl_ParseTable_ok k).1, (E_impl_ParseTable_ok k).2, mixed, rfl⟩ Tryd.func67 rfl (LoopsOK.nil) [] (by kernel_rfl) (fun x K => by kernel_rfl)
def E_laws_eqOdds (k : Nat) : Tbl := tcons 67 (ftab (.c (.val (.st (.pair (.int .i64) (.int .i64)))) (.c (.val (.st (.pair (.int .i64) (.int .i64)))) .e)) (F_laws_eqOdds k)) (E_impl_ParseTable k)
theorem E_laws_eqOdds_ok (k : Nat) : SoundE Tryd.prog glob (E_laws_eqOdds k) ∧ NatE (E_laws_eqOdds k) := tab_cons (s_laws_eqOdds k) (E_impl_ParseTable_ok k)
/-- laws.eqOddsS -/
def cx_laws_eqOddsS : Cx := { N := 27, G := glob, C := tys, ad := fun d => false, wk := false }
def sp_laws_eqOddsS_l0 : LSp where
  cv := []
  ts := [(0, .val (.sl (.st (.pair (.int .i64) (.int .i64))))), (1, .val (.sl (.st (.pair (.int .i64) (.int .i64))))), (5, .val (.int .i64))]
  ids := []
  tx := fun e => match e with | .exit i => bif Nat.beq i 0 then [] else [] | .ret => [4] | .normal => []
  ix := fun e => match e with | .exit i => bif Nat.beq i 0 then [] else [] | .ret => [] | .normal => []
def F_laws_eqOddsS_l0 (k : Nat) : LArg sp_laws_eqOddsS_l0 := fun K n x y => laws_eqOddsS_l0 k (K (.exit 0) (mkSt [] [])) (fun (y0 : Bool) => K (.ret) (mkSt [(4, .val .bool y0)] [])) n x.1 x.2.1 x.2.2.1
def LO_laws_eqOddsS_l0 (k : Nat) : LTbl := (lcons 4 (ltab sp_laws_eqOddsS_l0 (F_laws_eqOddsS_l0 k) k) lnil)
theorem lk_laws_eqOddsS_l0 (k : Nat) : LoopsOK Tryd.prog glob (E_laws_eqOdds k) cx_laws_eqOddsS (LO_laws_eqOddsS_l0 k) ((4, (loopB Tryd.f29 4)) :: []) :=
  LoopsOK.cons (LoopsOK.nil) (E_laws_eqOdds_ok k).2 (F := F_laws_eqOddsS_l0 k) k [] (by kernel_rfl) (by kernel_rfl) (fun K x y => rfl) (fun n x y K => by kernel_rfl)
def F_laws_eqOddsS (k : Nat) : FArg (.c (.val (.sl (.st (.pair (.int .i64) (.int .i64))))) (.c (.val (.sl (.st (.pair (.int .i64) (.int .i64))))) .e)) := fun x K => laws_eqOddsS k x.1 x.2.1 (fun (r0 : Bool) => K [⟨.bool, r0, true⟩])
theorem s_laws_eqOddsS (k : Nat) : SoundF Tryd.prog glob 29 (ftab (.c (.val (.sl (.st (.pair (.int .i64) (.int .i64))))) (.c (.val (.sl (.st (.pair (.int .i64) (.int .i64))))) .e)) (F_laws_eqOddsS k)) :=
  fun_ok (cx := cx_laws_eqOddsS) (by kernel_rfl) ⟨types, (E_laws_eqOdds_ok k).1, (E_laws_eqOdds_ok k).2, mixed, rfl⟩ Tryd.func29 rfl (lk_laws_eqOddsS_l0 k) [0] (by kernel_rfl) (fun x K => by kernel_rfl)
def E_laws_eqOddsS (k : Nat) : Tbl := tcons 29 (ftab (.c (.val (.sl (.st (.pair (.int .i64) (.int .i64))))) (.c (.val (.sl (.st (.pair (.int .i64) (.int .i64))))) .e)) (F_laws_eqOddsS k)) (E_laws_eqOdds k)
theorem E_laws_eqOddsS_ok (k : Nat) : SoundE Tryd.prog glob (E_laws_eqOddsS k) ∧ NatE (E_laws_eqOddsS k) := tab_cons (s_laws_eqOddsS k) (E_laws_eqOdds_ok k)
/-- laws.eqIntS -/
def cx_laws_eqIntS : Cx := { N := 26, G := glob, C := tys, ad := fun d => false, wk := false }
def sp_laws_eqIntS_l0 : LSp where
  cv := []
  ts := [(0, .val (.sl (.int .i64))), (1, .val (.sl (.int .i64))), (5, .val (.int .i64))]
  ids := []
  tx := fun e => match e with | .exit i => bif Nat.beq i 0 then [] else [] | .ret => [4] | .normal => []
  ix := fun e => match e with | .exit i => bif Nat.beq i 0 then [] else [] | .ret => [] | .normal => []
def F_laws_eqIntS_l0 (k : Nat) : LArg sp_laws_eqIntS_l0 := fun K n x y => laws_eqIntS_l0 k (K (.exit 0) (mkSt [] [])) (fun (y0 : Bool) => K (.ret) (mkSt [(4, .val .bool y0)] [])) n x.1 x.2.1 x.2.2.1
def LO_laws_eqIntS_l0 (k : Nat) : LTbl := (lcons 4 (ltab sp_laws_eqIntS_l0 (F_laws_eqIntS_l0 k) k) lnil)
theorem lk_laws_eqIntS_l0 (k : Nat) : LoopsOK Tryd.prog glob (E_laws_eqOddsS k) cx_laws_eqIntS (LO_laws_eqIntS_l0 k) ((4, (loopB Tryd.f68 4)) :: []) :=
  LoopsOK.cons (LoopsOK.nil) (E_laws_eqOddsS_ok k).2 (F := F_laws_eqIntS_l0 k) k [] (by kernel_rfl) (by kernel_rfl) (fun K x y => rfl) (fun n x y K => by kernel_rfl)
def F_laws_eqIntS (k : Nat) : FArg (.c (.val (.sl (.int .i64))) (.c (.val (.sl (.int .i64))) .e)) := fun x K => laws_eqIntS k x.1 x.2.1 (fun (r0 : Bool) => K [⟨.bool, r0, true⟩])
theorem s_laws_eqIntS (k : Nat) : SoundF Tryd.prog glob 68 (ftab (.c (.val (.sl (.int .i64))) (.c (.val (.sl (.int .i64))) .e)) (F_laws_eqIntS k)) :=
  fun_ok (cx := cx_laws_eqIntS) (by kernel_rfl) ⟨types, (E_laws_eqOddsS_ok k).1, (E_laws_eqOddsS_ok k).2, mixed, rfl⟩ Tryd.func68 rfl (lk_laws_eqIntS_l0 k) [0] (by kernel_rfl) (fun x K => by kernel_rfl)
def E_laws_eqIntS (k : Nat) : Tbl := tcons 68 (ftab (.c (.val (.sl (.int .i64))) (.c (.val (.sl (.int .i64))) .e)) (F_laws_eqIntS k)) (E_laws_eqOddsS k)
theorem E_laws_eqIntS_ok (k : Nat) : SoundE Tryd.prog glob (E_laws_eqIntS k) ∧ NatE (E_laws_eqIntS k) := tab_cons (s_laws_eqIntS k) (E_laws_eqOddsS_ok k)
/-- laws.eqIntSS -/
def cx_laws_eqIntSS : Cx := { N := 27, G := glob, C := tys, ad := fun d => false, wk := false }
def sp_laws_eqIntSS_l0 : LSp where
  cv := []
  ts := [(0, .val (.sl (.sl (.int .i64)))), (1, .val (.sl (.sl (.int .i64)))), (5, .val (.int .i64))]
  ids := []
  tx := fun e => match e with | .exit i => bif Nat.beq i 0 then [] else [] | .ret => [4] | .normal => []
  ix := fun e => match e with | .exit i => bif Nat.beq i 0 then [] else [] | .ret => [] | .normal => []
def F_laws_eqIntSS_l0 (k : Nat) : LArg sp_laws_eqIntSS_l0 := fun K n x y => laws_eqIntSS_l0 k (K (.exit 0) (mkSt [] [])) (fun (y0 : Bool) => K (.ret) (mkSt [(4, .val .bool y0)] [])) n x.1 x.2.1 x.2.2.1
def LO_laws_eqIntSS_l0 (k : Nat) : LTbl := (lcons 4 (ltab sp_laws_eqIntSS_l0 (F_laws_eqIntSS_l0 k) k) lnil)
theorem lk_laws_eqIntSS_l0 (k : Nat) : LoopsOK Tryd.prog glob (E_laws_eqIntS k) cx_laws_eqIntSS (LO_laws_eqIntSS_l0 k) ((4, (loopB Tryd.f30 4)) :: []) :=
  LoopsOK.cons (LoopsOK.nil) (E_laws_eqIntS_ok k).2 (F := F_laws_eqIntSS_l0 k) k [] (by kernel_rfl) (by kernel_rfl) (fun K x y => rfl) (fun n x y K => by kernel_rfl)
def F_laws_eqIntSS (k : Nat) : FArg (.c (.val (.sl (.sl (.int .i64)))) (.c (.val (.sl (.sl (.int .i64)))) .e)) := fun x K => laws_eqIntSS k x.1 x.2.1 (fun (r0 : Bool) => K [⟨.bool, r0, true⟩])
theorem s_laws_eqIntSS (k : Nat) : SoundF Tryd.prog glob 30 (ftab (.c (.val (.sl (.sl (.int .i64)))) (.c (.val (.sl (.sl (.int .i64)))) .e)) (F_laws_eqIntSS k)) :=
  fun_ok (cx := cx_laws_eqIntSS) (by kernel_rfl) ⟨types, (E_laws_eqIntS_ok k).1, (E_laws_eqIntS_ok k).2, mixed, rfl⟩ Tryd.func30 rfl (lk_laws_eqIntSS_l0 k) [0] (by kernel_rfl) (fun x K => by kernel_rfl)
def E_laws_eqIntSS (k : Nat) : Tbl := tcons 30 (ftab (.c (.val (.sl (.sl (.int .i64)))) (.c (.val (.sl (.sl (.int .i64)))) .e)) (F_laws_eqIntSS k)) (E_laws_eqIntS k)
theorem E_laws_eqIntSS_ok (k : Nat) : SoundE Tryd.prog glob (E_laws_eqIntSS k) ∧ NatE (E_laws_eqIntSS k) := tab_cons (s_laws_eqIntSS k) (E_laws_eqIntS_ok k)
/-- laws.eqCombatTable -/
def cx_laws_eqCombatTable : Cx := { N := 22, G := glob, C := tys, ad := fun d => false, wk := false }
def F_laws_eqCombatTable (k : Nat) : FArg (.c (.val (.st (.pair (.sl (.st (.pair (.int .i64) (.int .i64)))) (.pair (.int .i64) (.sl (.sl (.int .i64))))))) (.c (.val (.st (.pair (.sl (.st (.pair (.int .i64) (.int .i64)))) (.pair (.int .i64) (.sl (.sl (.int .i64))))))) .e)) := fun x K => laws_eqCombatTable k x.1 x.2.1 (fun (r0 : Bool) => K [⟨.bool, r0, true⟩])
theorem s_laws_eqCombatTable (k : Nat) : SoundF Tryd.prog glob 9 (ftab (.c (.val (.st (.pair (.sl (.st (.pair (.int .i64) (.int .i64)))) (.pair (.int .i64) (.sl (.sl (.int .i64))))))) (.c (.val (.st (.pair (.sl (.st (.pair (.int .i64) (.int .i64)))) (.pair (.int .i64) (.sl (.sl (.int .i64))))))) .e)) (F_laws_eqCombatTable k)) :=
  fun_ok (cx := cx_laws_eqCombatTable) (by kernel_rfl) ⟨types, (E_laws_eqIntSS_ok k).1, (E_laws_eqIntSS_ok k).2, mixed, rfl⟩ Tryd.func9 rfl (LoopsOK.nil) [] (by kernel_rfl) (fun x K => by kernel_rfl)
def E_laws_eqCombatTable (k : Nat) : Tbl := tcons 9 (ftab (.c (.val (.st (.pair (.sl (.st (.pair (.int .i64) (.int .i64)))) (.pair (.int .i64) (.sl (.sl (.int .i64))))))) (.c (.val (.st (.pair (.sl (.st (.pair (.int .i64) (.int .i64)))) (.pair (.int .i64) (.sl (.sl (.int .i64))))))) .e)) (F_laws_eqCombatTable k)) (E_laws_eqIntSS k)
theorem E_laws_eqCombatTable_ok (k : Nat) : SoundE Tryd.prog glob (E_laws_eqCombatTable k) ∧ NatE (E_laws_eqCombatTable k) := tab_cons (s_laws_eqCombatTable k) (E_laws_eqIntSS_ok k)
/-- laws.markOddsS -/
def cx_laws_markOddsS_in : Cx := { N := 27, G := glob, C := tys, ad := fun d => false, wk := true, dp := true }
def sp_laws_markOddsS_in_l0 : LSp where
  cv := []
  ts := [(0, .own 3000000), (1, .val (.int .i64)), (5, .val (.int .i64))]
  ids := [(3000000, .row (.st (.pair (.int .i64) (.int .i64))))]
  tx := fun e => match e with | .exit i => bif Nat.beq i 0 then [1] else [] | .ret => [] | .normal => []
  ix := fun e => match e with | .exit i => bif Nat.beq i 0 then [3000000] else [] | .ret => [] | .normal => []
def F_laws_markOddsS_in_l0 (k : Nat) : LArg sp_laws_markOddsS_in_l0 := fun K n x y => laws_markOddsS_in_l0 k (fun (y0 : Int) (y1 : List (Int × Int)) => K (.exit 0) (mkSt [(1, .val (.int .i64) y0)] [(3000000, some (.row (.st (.pair (.int .i64) (.int .i64))) y1))])) n x.2.1 x.2.2.1 y.1
def LO_laws_markOddsS_in_l0 (k : Nat) : LTbl := (lcons 2 (ltab sp_laws_markOddsS_in_l0 (F_laws_markOddsS_in_l0 k) k) lnil)
theorem lk_laws_markOddsS_in_l0 (k : Nat) : LoopsOK Tryd.prog glob (E_laws_eqCombatTable k) cx_laws_markOddsS_in (LO_laws_markOddsS_in_l0 k) ((2, (loopB Tryd.f31 2)) :: []) :=
  LoopsOK.cons (LoopsOK.nil) (E_laws_eqCombatTable_ok k).2 (F := F_laws_markOddsS_in_l0 k) k [] (by kernel_rfl) (by kernel_rfl) (fun K x y => rfl) (fun n x y K => by kernel_rfl)
def F_laws_markOddsS_in (k : Nat) : FArg (.c (.val (.sl (.st (.pair (.int .i64) (.int .i64))))) (.c (.val (.int .i64)) .e)) := fun x K => laws_markOddsS_in k x.1 x.2.1 (fun (r0 : List (Int × Int)) (r1 : Int) => K [⟨(.sl (.st (.pair (.int .i64) (.int .i64)))), r0, false⟩, ⟨(.int .i64), r1, true⟩])
theorem s_laws_markOddsS_in (k : Nat) : SoundI Tryd.prog glob 31 1 (ftab (.c (.val (.sl (.st (.pair (.int .i64) (.int .i64))))) (.c (.val (.int .i64)) .e)) (F_laws_markOddsS_in k)) :=
  funI_ok (m := 1) (cx := cx_laws_markOddsS_in) (by kernel_rfl) ⟨types, (E_laws_eqCombatTable_ok k).1, (E_laws_eqCombatTable_ok k).2, mixed, rfl⟩ Tryd.func31 rfl (lk_laws_markOddsS_in_l0 k) [0] (by kernel_rfl) (fun x K => by kernel_rfl)
def E_laws_markOddsS_in (k : Nat) : Tbl := tcons (31 + 1000000 * 1) (ftab (.c (.val (.sl (.st (.pair (.int .i64) (.int .i64))))) (.c (.val (.int .i64)) .e)) (F_laws_markOddsS_in k)) (E_laws_eqCombatTable k)
theorem E_laws_markOddsS_in_ok (k : Nat) : SoundE Tryd.prog glob (E_laws_markOddsS_in k) ∧ NatE (E_laws_markOddsS_in k) := tab_consI (by decide) (s_laws_markOddsS_in k) (E_laws_eqCombatTable_ok k)
/-- laws.markIntS -/
def cx_laws_markIntS_in : Cx := { N := 19, G := glob, C := tys, ad := fun d => false, wk := true, dp := true }
def sp_laws_markIntS_in_l0 : LSp where
  cv := []
  ts := [(0, .own 3000000), (1, .val (.int .i64)), (5, .val (.int .i64))]
  ids := [(3000000, .row (.int .i64))]
  tx := fun e => match e with | .exit i => bif Nat.beq i 0 then [1] else [] | .ret => [] | .normal => []
  ix := fun e => match e with | .exit i => bif Nat.beq i 0 then [3000000] else [] | .ret => [] | .normal => []
def F_laws_markIntS_in_l0 (k : Nat) : LArg sp_laws_markIntS_in_l0 := fun K n x y => laws_markIntS_in_l0 k (fun (y0 : Int) (y1 : List Int) => K (.exit 0) (mkSt [(1, .val (.int .i64) y0)] [(3000000, some (.row (.int .i64) y1))])) n x.2.1 x.2.2.1 y.1
def LO_laws_markIntS_in_l0 (k : Nat) : LTbl := (lcons 2 (ltab sp_laws_markIntS_in_l0 (F_laws_markIntS_in_l0 k) k) lnil)
theorem lk_laws_markIntS_in_l0 (k : Nat) : LoopsOK Tryd.prog glob (E_laws_markOddsS_in k) cx_laws_markIntS_in (LO_laws_markIntS_in_l0 k) ((2, (loopB Tryd.f69 2)) :: []) :=
  LoopsOK.cons (LoopsOK.nil) (E_laws_markOddsS_in_ok k).2 (F := F_laws_markIntS_in_l0 k) k [] (by kernel_rfl) (by kernel_rfl) (fun K x y => rfl) (fun n x y K => by kernel_rfl)
def F_laws_markIntS_in (k : Nat) : FArg (.c (.val (.sl (.int .i64))) (.c (.val (.int .i64)) .e)) := fun x K => laws_markIntS_in k x.1 x.2.1 (fun (r0 : List Int) (r1 : Int) => K [⟨(.sl (.int .i64)), r0, false⟩, ⟨(.int .i64), r1, true⟩])
theorem s_laws_markIntS_in (k : Nat) : SoundI Tryd.prog glob 69 1 (ftab (.c (.val (.sl (.int .i64))) (.c (.val (.int .i64)) .e)) (F_laws_markIntS_in k)) :=
  funI_ok (m := 1) (cx := cx_laws_markIntS_in) (by kernel_rfl) ⟨types, (E_laws_markOddsS_in_ok k).1, (E_laws_markOddsS_in_ok k).2, mixed, rfl⟩ Tryd.func69 rfl (lk_laws_markIntS_in_l0 k) [0] (by kernel_rfl) (fun x K => by kernel_rfl)
def E_laws_markIntS_in (k : Nat) : Tbl := tcons (69 + 1000000 * 1) (ftab (.c (.val (.sl (.int .i64))) (.c (.val (.int .i64)) .e)) (F_laws_markIntS_in k)) (E_laws_markOddsS_in k)
theorem E_laws_markIntS_in_ok (k : Nat) : SoundE Tryd.prog glob (E_laws_markIntS_in k) ∧ NatE (E_laws_markIntS_in k) := tab_consI (by decide) (s_laws_markIntS_in k) (E_laws_markOddsS_in_ok k)
/-- laws.markIntSS -/
def cx_laws_markIntSS_in : Cx := { N := 19, G := glob, C := tys, ad := fun d => false, wk := true, ip := fun d => bif Nat.beq d 69 then 1 else 0, dp := true }
def sp_laws_markIntSS_in_l0 : LSp where
  cv := []
  ts := [(0, .own 3000000), (1, .val (.int .i64)), (5, .val (.int .i64))]
  ids := [(3000000, .deep (.sl (.int .i64)))]
  tx := fun e => match e with | .exit i => bif Nat.beq i 0 then [1] else [] | .ret => [] | .normal => []
  ix := fun e => match e with | .exit i => bif Nat.beq i 0 then [3000000] else [] | .ret => [] | .normal => []
def F_laws_markIntSS_in_l0 (k : Nat) : LArg sp_laws_markIntSS_in_l0 := fun K n x y => laws_markIntSS_in_l0 k (fun (y0 : Int) (y1 : List (List Int)) => K (.exit 0) (mkSt [(1, .val (.int .i64) y0)] [(3000000, some (.deep (.sl (.int .i64)) y1 0))])) n x.2.1 x.2.2.1 y.1
def LO_laws_markIntSS_in_l0 (k : Nat) : LTbl := (lcons 2 (ltab sp_laws_markIntSS_in_l0 (F_laws_markIntSS_in_l0 k) k) lnil)
theorem lk_laws_markIntSS_in_l0 (k : Nat) : LoopsOK Tryd.prog glob (E_laws_markIntS_in k) cx_laws_markIntSS_in (LO_laws_markIntSS_in_l0 k) ((2, (loopB Tryd.f32 2)) :: []) :=
  LoopsOK.cons (LoopsOK.nil) (E_laws_markIntS_in_ok k).2 (F := F_laws_markIntSS_in_l0 k) k [] (by kernel_rfl) (by kernel_rfl) (fun K x y => rfl) (fun n x y K => by kernel_rfl)
def F_laws_markIntSS_in (k : Nat) : FArg (.c (.val (.sl (.sl (.int .i64)))) (.c (.val (.int .i64)) .e)) := fun x K => laws_markIntSS_in k x.1 x.2.1 (fun (r0 : List (List Int)) (r1 : Int) => K [⟨(.sl (.sl (.int .i64))), r0, false⟩, ⟨(.int .i64), r1, true⟩])
theorem s_laws_markIntSS_in (k : Nat) : SoundI Tryd.prog glob 32 1 (ftab (.c (.val (.sl (.sl (.int .i64)))) (.c (.val (.int .i64)) .e)) (F_laws_markIntSS_in k)) :=
  funI_ok (m := 1) (cx := cx_laws_markIntSS_in) (by kernel_rfl) ⟨types, (E_laws_markIntS_in_ok k).1, (E_laws_markIntS_in_ok k).2, mixed, rfl⟩ Tryd.func32 rfl (lk_laws_markIntSS_in_l0 k) [0] (by kernel_rfl) (fun x K => by kernel_rfl)
def E_laws_markIntSS_in (k : Nat) : Tbl := tcons (32 + 1000000 * 1) (ftab (.c (.val (.sl (.sl (.int .i64)))) (.c (.val (.int .i64)) .e)) (F_laws_markIntSS_in k)) (E_laws_markIntS_in k)
theorem E_laws_markIntSS_in_ok (k : Nat) : SoundE Tryd.prog glob (E_laws_markIntSS_in k) ∧ NatE (E_laws_markIntSS_in k) := tab_consI (by decide) (s_laws_markIntSS_in k) (E_laws_markIntS_in_ok k)
/-- laws.markCombatTable -/
def cx_laws_markCombatTable_in : Cx := { N := 14, G := glob, C := tys, ad := fun d => false, wk := true, ip := fun d => bif Nat.beq d 32 then 1 else bif Nat.beq d 31 then 1 else 0, dp := true }
def F_laws_markCombatTable_in (k : Nat) : FArg (.c (.val (.st (.pair (.sl (.st (.pair (.int .i64) (.int .i64)))) (.pair (.int .i64) (.sl (.sl (.int .i64))))))) (.c (.val (.int .i64)) .e)) := fun x K => laws_markCombatTable_in k x.1 x.2.1 (fun (r0 : (List (Int × Int)) × Int × List (List Int)) (r1 : Int) => K [⟨(.st (.pair (.sl (.st (.pair (.int .i64) (.int .i64)))) (.pair (.int .i64) (.sl (.sl (.int .i64)))))), r0, false⟩, ⟨(.int .i64), r1, true⟩])
theorem s_laws_markCombatTable_in (k : Nat) : SoundI Tryd.prog glob 10 1 (ftab (.c (.val (.st (.pair (.sl (.st (.pair (.int .i64) (.int .i64)))) (.pair (.int .i64) (.sl (.sl (.int .i64))))))) (.c (.val (.int .i64)) .e)) (F_laws_markCombatTable_in k)) :=
  funI_ok (m := 1) (cx := cx_laws_markCombatTable_in) (by kernel_rfl) ⟨types, (E_laws_markIntSS_in_ok k).1, (E_laws_markIntSS_in_ok k).2, mixed, rfl⟩ Tryd.func10 rfl (LoopsOK.nil) [] (by kernel_rfl) (fun x K => by kernel_rfl)
def E_laws_markCombatTable_in (k : Nat) : Tbl := tcons (10 + 1000000 * 1) (ftab (.c (.val (.st (.pair (.sl (.st (.pair (.int .i64) (.int .i64)))) (.pair (.int .i64) (.sl (.sl (.int .i64))))))) (.c (.val (.int .i64)) .e)) (F_laws_markCombatTable_in k)) (E_laws_markIntSS_in k)
theorem E_laws_markCombatTable_in_ok (k : Nat) : SoundE Tryd.prog glob (E_laws_markCombatTable_in k) ∧ NatE (E_laws_markCombatTable_in k) := tab_consI (by decide) (s_laws_markCombatTable_in k) (E_laws_markIntSS_in_ok k)
/-- laws.heldOddsS -/
def cx_laws_heldOddsS : Cx := { N := 31, G := glob, C := tys, ad := fun d => false, wk := false }
def sp_laws_heldOddsS_l0 : LSp where
  cv := []
  ts := [(0, .val (.sl (.st (.pair (.int .i64) (.int .i64))))), (1, .val (.int .i64)), (5, .val (.int .i64))]
  ids := []
  tx := fun e => match e with | .exit i => bif Nat.beq i 0 then [1] else [] | .ret => [4] | .normal => []
  ix := fun e => match e with | .exit i => bif Nat.beq i 0 then [] else [] | .ret => [] | .normal => []
def F_laws_heldOddsS_l0 (k : Nat) : LArg sp_laws_heldOddsS_l0 := fun K n x y => laws_heldOddsS_l0 k (fun (y0 : Int) => K (.exit 0) (mkSt [(1, .val (.int .i64) y0)] [])) (fun (y0 : Int) => K (.ret) (mkSt [(4, .val (.int .i64) y0)] [])) n x.1 x.2.1 x.2.2.1
def LO_laws_heldOddsS_l0 (k : Nat) : LTbl := (lcons 2 (ltab sp_laws_heldOddsS_l0 (F_laws_heldOddsS_l0 k) k) lnil)
theorem lk_laws_heldOddsS_l0 (k : Nat) : LoopsOK Tryd.prog glob (E_laws_markCombatTable_in k) cx_laws_heldOddsS (LO_laws_heldOddsS_l0 k) ((2, (loopB Tryd.f33 2)) :: []) :=
  LoopsOK.cons (LoopsOK.nil) (E_laws_markCombatTable_in_ok k).2 (F := F_laws_heldOddsS_l0 k) k [] (by kernel_rfl) (by kernel_rfl) (fun K x y => rfl) (fun n x y K => by kernel_rfl)
def F_laws_heldOddsS (k : Nat) : FArg (.c (.val (.sl (.st (.pair (.int .i64) (.int .i64))))) (.c (.val (.int .i64)) .e)) := fun x K => laws_heldOddsS k x.1 x.2.1 (fun (r0 : Int) => K [⟨(.int .i64), r0, true⟩])
theorem s_laws_heldOddsS (k : Nat) : SoundF Tryd.prog glob 33 (ftab (.c (.val (.sl (.st (.pair (.int .i64) (.int .i64))))) (.c (.val (.int .i64)) .e)) (F_laws_heldOddsS k)) :=
  fun_ok (cx := cx_laws_heldOddsS) (by kernel_rfl) ⟨types, (E_laws_markCombatTable_in_ok k).1, (E_laws_markCombatTable_in_ok k).2, mixed, rfl⟩ Tryd.func33 rfl (lk_laws_heldOddsS_l0 k) [0] (by kernel_rfl) (fun x K => by kernel_rfl)
def E_laws_heldOddsS (k : Nat) : Tbl := tcons 33 (ftab (.c (.val (.sl (.st (.pair (.int .i64) (.int .i64))))) (.c (.val (.int .i64)) .e)) (F_laws_heldOddsS k)) (E_laws_markCombatTable_in k)
theorem E_laws_heldOddsS_ok (k : Nat) : SoundE Tryd.prog glob (E_laws_heldOddsS k) ∧ NatE (E_laws_heldOddsS k) := tab_cons (s_laws_heldOddsS k) (E_laws_markCombatTable_in_ok k)
/-- laws.heldIntS -/
def cx_laws_heldIntS : Cx := { N := 21, G := glob, C := tys, ad := fun d => false, wk := false }
def sp_laws_heldIntS_l0 : LSp where
  cv := []
  ts := [(0, .val (.sl (.int .i64))), (1, .val (.int .i64)), (5, .val (.int .i64))]
  ids := []
  tx := fun e => match e with | .exit i => bif Nat.beq i 0 then [1] else [] | .ret => [4] | .normal => []
  ix := fun e => match e with | .exit i => bif Nat.beq i 0 then [] else [] | .ret => [] | .normal => []
def F_laws_heldIntS_l0 (k : Nat) : LArg sp_laws_heldIntS_l0 := fun K n x y => laws_heldIntS_l0 k (fun (y0 : Int) => K (.exit 0) (mkSt [(1, .val (.int .i64) y0)] [])) (fun (y0 : Int) => K (.ret) (mkSt [(4, .val (.int .i64) y0)] [])) n x.1 x.2.1 x.2.2.1
def LO_laws_heldIntS_l0 (k : Nat) : LTbl := (lcons 2 (ltab sp_laws_heldIntS_l0 (F_laws_heldIntS_l0 k) k) lnil)
theorem lk_laws_heldIntS_l0 (k : Nat) : LoopsOK Tryd.prog glob (E_laws_heldOddsS k) cx_laws_heldIntS (LO_laws_heldIntS_l0 k) ((2, (loopB Tryd.f70 2)) :: []) :=
  LoopsOK.cons (LoopsOK.nil) (E_laws_heldOddsS_ok k).2 (F := F_laws_heldIntS_l0 k) k [] (by kernel_rfl) (by kernel_rfl) (fun K x y => rfl) (fun n x y K => by kernel_rfl)
def F_laws_heldIntS (k : Nat) : FArg (.c (.val (.sl (.int .i64))) (.c (.val (.int .i64)) .e)) := fun x K => laws_heldIntS k x.1 x.2.1 (fun (r0 : Int) => K [⟨(.int .i64), r0, true⟩])
theorem s_laws_heldIntS (k : Nat) : SoundF Tryd.prog glob 70 (ftab (.c (.val (.sl (.int .i64))) (.c (.val (.int .i64)) .e)) (F_laws_heldIntS k)) :=
  fun_ok (cx := cx_laws_heldIntS) (by kernel_rfl) ⟨types, (E_laws_heldOddsS_ok k).1, (E_laws_heldOddsS_ok k).2, mixed, rfl⟩ Tryd.func70 rfl (lk_laws_heldIntS_l0 k) [0] (by kernel_rfl) (fun x K => by kernel_rfl)
def E_laws_heldIntS (k : Nat) : Tbl := tcons 70 (ftab (.c (.val (.sl (.int .i64))) (.c (.val (.int .i64)) .e)) (F_laws_heldIntS k)) (E_laws_heldOddsS k)
theorem E_laws_heldIntS_ok (k : Nat) : SoundE Tryd.prog glob (E_laws_heldIntS k) ∧ NatE (E_laws_heldIntS k) := tab_cons (s_laws_heldIntS k) (E_laws_heldOddsS_ok k)
/-- laws.heldIntSS -/
def cx_laws_heldIntSS : Cx := { N := 21, G := glob, C := tys, ad := fun d => false, wk := false }
def sp_laws_heldIntSS_l0 : LSp where
  cv := []
  ts := [(0, .val (.sl (.sl (.int .i64)))), (1, .val (.int .i64)), (5, .val (.int .i64))]
  ids := []
  tx := fun e => match e with | .exit i => bif Nat.beq i 0 then [1] else [] | .ret => [4] | .normal => []
  ix := fun e => match e with | .exit i => bif Nat.beq i 0 then [] else [] | .ret => [] | .normal => []
def F_laws_heldIntSS_l0 (k : Nat) : LArg sp_laws_heldIntSS_l0 := fun K n x y => laws_heldIntSS_l0 k (fun (y0 : Int) => K (.exit 0) (mkSt [(1, .val (.int .i64) y0)] [])) (fun (y0 : Int) => K (.ret) (mkSt [(4, .val (.int .i64) y0)] [])) n x.1 x.2.1 x.2.2.1
def LO_laws_heldIntSS_l0 (k : Nat) : LTbl := (lcons 2 (ltab sp_laws_heldIntSS_l0 (F_laws_heldIntSS_l0 k) k) lnil)
theorem lk_laws_heldIntSS_l0 (k : Nat) : LoopsOK Tryd.prog glob (E_laws_heldIntS k) cx_laws_heldIntSS (LO_laws_heldIntSS_l0 k) ((2, (loopB Tryd.f34 2)) :: []) :=
  LoopsOK.cons (LoopsOK.nil) (E_laws_heldIntS_ok k).2 (F := F_laws_heldIntSS_l0 k) k [] (by kernel_rfl) (by kernel_rfl) (fun K x y => rfl) (fun n x y K => by kernel_rfl)
def F_laws_heldIntSS (k : Nat) : FArg (.c (.val (.sl (.sl (.int .i64)))) (.c (.val (.int .i64)) .e)) := fun x K => laws_heldIntSS k x.1 x.2.1 (fun (r0 : Int) => K [⟨(.int .i64), r0, true⟩])
theorem s_laws_heldIntSS (k : Nat) : SoundF Tryd.prog glob 34 (ftab (.c (.val (.sl (.sl (.int .i64)))) (.c (.val (.int .i64)) .e)) (F_laws_heldIntSS k)) :=
  fun_ok (cx := cx_laws_heldIntSS) (by kernel_rfl) ⟨types, (E_laws_heldIntS_ok k).1, (E_laws_heldIntS_ok k).2, mixed, rfl⟩ Tryd.func34 rfl (lk_laws_heldIntSS_l0 k) [0] (by kernel_rfl) (fun x K => by kernel_rfl)
def E_laws_heldIntSS (k : Nat) : Tbl := tcons 34 (ftab (.c (.val (.sl (.sl (.int .i64)))) (.c (.val (.int .i64)) .e)) (F_laws_heldIntSS k)) (E_laws_heldIntS k)
theorem E_laws_heldIntSS_ok (k : Nat) : SoundE Tryd.prog glob (E_laws_heldIntSS k) ∧ NatE (E_laws_heldIntSS k) := tab_cons (s_laws_heldIntSS k) (E_laws_heldIntS_ok k)
/-- laws.heldCombatTable -/
def cx_laws_heldCombatTable : Cx := { N := 18, G := glob, C := tys, ad := fun d => false, wk := false }
def F_laws_heldCombatTable (k : Nat) : FArg (.c (.val (.st (.pair (.sl (.st (.pair (.int .i64) (.int .i64)))) (.pair (.int .i64) (.sl (.sl (.int .i64))))))) (.c (.val (.int .i64)) .e)) := fun x K => laws_heldCombatTable k x.1 x.2.1 (fun (r0 : Int) => K [⟨(.int .i64), r0, true⟩])
theorem s_laws_heldCombatTable (k : Nat) : SoundF Tryd.prog glob 11 (ftab (.c (.val (.st (.pair (.sl (.st (.pair (.int .i64) (.int .i64)))) (.pair (.int .i64) (.sl (.sl (.int .i64))))))) (.c (.val (.int .i64)) .e)) (F_laws_heldCombatTable k)) :=
  fun_ok (cx := cx_laws_heldCombatTable) (by kernel_rfl) ⟨types, (E_laws_heldIntSS_ok k).1, (E_laws_heldIntSS_ok k).2, mixed, rfl⟩ Tryd.func11 rfl (LoopsOK.nil) [] (by kernel_rfl) (fun x K => by kernel_rfl)
def E_laws_heldCombatTable (k : Nat) : Tbl := tcons 11 (ftab (.c (.val (.st (.pair (.sl (.st (.pair (.int .i64) (.int .i64)))) (.pair (.int .i64) (.sl (.sl (.int .i64))))))) (.c (.val (.int .i64)) .e)) (F_laws_heldCombatTable k)) (E_laws_heldIntSS k)
theorem E_laws_heldCombatTable_ok (k : Nat) : SoundE Tryd.prog glob (E_laws_heldCombatTable k) ∧ NatE (E_laws_heldCombatTable k) := tab_cons (s_laws_heldCombatTable k) (E_laws_heldIntSS_ok k)
/-- laws.FnExactParseTable -/
def cx_laws_FnExactParseTable : Cx := { N := 66, G := glob, C := tys, ad := fun d => Nat.beq d 16 || Nat.beq d 21 || Nat.beq d 26 || Nat.beq d 38 || Nat.beq d 46 || Nat.beq d 51 || Nat.beq d 60, wk := false, ip := fun d => bif Nat.beq d 10 then 1 else 0, dp := true }
def F_laws_FnExactParseTable (k : Nat) : FArg (.c (.val .str) .e) := fun x K => laws_FnExactParseTable k x.1 (fun (r0 : Bool) => K [⟨.bool, r0, true⟩])
theorem q_laws_FnExactParseTable (k : Nat) (c0 : ByteArray → ∀ {R : Type}, (((List (Int × Int)) × Int × List (List Int)) → Bool → Option R) → Option R) (c1 : ByteArray → ∀ {R : Type}, (((List (Int × Int)) × Int × List (List Int)) → Bool → Option R) → Option R) (c2 : ((List (Int × Int)) × Int × List (List Int)) → ((List (Int × Int)) × Int × List (List Int)) → ∀ {R : Type}, (Bool → Option R) → Option R) (c3 : ((List (Int × Int)) × Int × List (List Int)) → Int → ∀ {R : Type}, (((List (Int × Int)) × Int × List (List Int)) → Int → Option R) → Option R) (c4 : ((List (Int × Int)) × Int × List (List Int)) → Int → ∀ {R : Type}, (Int → Option R) → Option R) {R : Type} (x : ((.c (.val .str) .e) : Sh).den) (K : List Res → Option R) : (fun (x : ByteArray) (K : Bool → Option R) =>
    bif decide ((1048576 : Int) < ((ByteArray.size x : Nat) : Int)) then
      K true
    else
      c0 x fun (r : (List (Int × Int)) × Int × List (List Int)) (r0 : Bool) =>
      c1 x fun (r1 : (List (Int × Int)) × Int × List (List Int)) (r2 : Bool) =>
      c2 r1 r fun (r3 : Bool) =>
      bif !r3 then
        K false
      else
        bif !(r2 == r0) then
          K false
        else
          c3 r1 (1 : Int) fun (t : (List (Int × Int)) × Int × List (List Int)) (r4 : Int) =>
          c4 (t.1, (r1.2.1, t.2.2)) (1 : Int) fun (r5 : Int) =>
          bif decide (r5 < (0 : Int)) then
            K false
          else
            bif !(decide (r5 = r4)) then
              K false
            else
              c1 x fun (r6 : (List (Int × Int)) × Int × List (List Int)) (r7 : Bool) =>
              c2 r6 r fun (r8 : Bool) =>
              bif !r8 then
                K false
              else
                bif !(r7 == r0) then
                  K false
                else
                  c4 (t.1, (r1.2.1, t.2.2)) (1 : Int) fun (r9 : Int) =>
                  bif decide (r9 < (0 : Int)) then
                    K false
                  else
                    bif !(decide (r9 = r4)) then
                      K false
                    else
                      K true) x.1 (fun (r0 : Bool) => K [⟨.bool, r0, true⟩]) = evFun ((tcons 7 (ftab (.c (.val .str) .e) fun x K => c0 x.1 (fun (r0 : (List (Int × Int)) × Int × List (List Int)) (r1 : Bool) => K [⟨(.st (.pair (.sl (.st (.pair (.int .i64) (.int .i64)))) (.pair (.int .i64) (.sl (.sl (.int .i64)))))), r0, false⟩, ⟨.bool, r1, true⟩])) (tcons 8 (ftab (.c (.val .str) .e) fun x K => c1 x.1 (fun (r0 : (List (Int × Int)) × Int × List (List Int)) (r1 : Bool) => K [⟨(.st (.pair (.sl (.st (.pair (.int .i64) (.int .i64)))) (.pair (.int .i64) (.sl (.sl (.int .i64)))))), r0, true⟩, ⟨.bool, r1, true⟩])) (tcons 9 (ftab (.c (.val (.st (.pair (.sl (.st (.pair (.int .i64) (.int .i64)))) (.pair (.int .i64) (.sl (.sl (.int .i64))))))) (.c (.val (.st (.pair (.sl (.st (.pair (.int .i64) (.int .i64)))) (.pair (.int .i64) (.sl (.sl (.int .i64))))))) .e)) fun x K => c2 x.1 x.2.1 (fun (r0 : Bool) => K [⟨.bool, r0, true⟩])) (tcons (10 + 1000000 * 1) (ftab (.c (.val (.st (.pair (.sl (.st (.pair (.int .i64) (.int .i64)))) (.pair (.int .i64) (.sl (.sl (.int .i64))))))) (.c (.val (.int .i64)) .e)) fun x K => c3 x.1 x.2.1 (fun (r0 : (List (Int × Int)) × Int × List (List Int)) (r1 : Int) => K [⟨(.st (.pair (.sl (.st (.pair (.int .i64) (.int .i64)))) (.pair (.int .i64) (.sl (.sl (.int .i64)))))), r0, false⟩, ⟨(.int .i64), r1, true⟩])) (tcons 11 (ftab (.c (.val (.st (.pair (.sl (.st (.pair (.int .i64) (.int .i64)))) (.pair (.int .i64) (.sl (.sl (.int .i64))))))) (.c (.val (.int .i64)) .e)) fun x K => c4 x.1 x.2.1 (fun (r0 : Int) => K [⟨(.int .i64), r0, true⟩])) tnil)))))) lnil cx_laws_FnExactParseTable Tryd.f3 (give (.c (.val .str) .e) x) K := by kernel_rfl
theorem e_laws_FnExactParseTable (k : Nat) : SoundE Tryd.prog glob (tcons 7 (ftab (.c (.val .str) .e) (F_spec_ParseTable k)) (tcons 8 (ftab (.c (.val .str) .e) (F_impl_ParseTable k)) (tcons 9 (ftab (.c (.val (.st (.pair (.sl (.st (.pair (.int .i64) (.int .i64)))) (.pair (.int .i64) (.sl (.sl (.int .i64))))))) (.c (.val (.st (.pair (.sl (.st (.pair (.int .i64) (.int .i64)))) (.pair (.int .i64) (.sl (.sl (.int .i64))))))) .e)) (F_laws_eqCombatTable k)) (tcons (10 + 1000000 * 1) (ftab (.c (.val (.st (.pair (.sl (.st (.pair (.int .i64) (.int .i64)))) (.pair (.int .i64) (.sl (.sl (.int .i64))))))) (.c (.val (.int .i64)) .e)) (F_laws_markCombatTable_in k)) (tcons 11 (ftab (.c (.val (.st (.pair (.sl (.st (.pair (.int .i64) (.int .i64)))) (.pair (.int .i64) (.sl (.sl (.int .i64))))))) (.c (.val (.int .i64)) .e)) (F_laws_heldCombatTable k)) tnil))))) ∧ NatE (tcons 7 (ftab (.c (.val .str) .e) (F_spec_ParseTable k)) (tcons 8 (ftab (.c (.val .str) .e) (F_impl_ParseTable k)) (tcons 9 (ftab (.c (.val (.st (.pair (.sl (.st (.pair (.int .i64) (.int .i64)))) (.pair (.int .i64) (.sl (.sl (.int .i64))))))) (.c (.val (.st (.pair (.sl (.st (.pair (.int .i64) (.int .i64)))) (.pair (.int .i64) (.sl (.sl (.int .i64))))))) .e)) (F_laws_eqCombatTable k)) (tcons (10 + 1000000 * 1) (ftab (.c (.val (.st (.pair (.sl (.st (.pair (.int .i64) (.int .i64)))) (.pair (.int .i64) (.sl (.sl (.int .i64))))))) (.c (.val (.int .i64)) .e)) (F_laws_markCombatTable_in k)) (tcons 11 (ftab (.c (.val (.st (.pair (.sl (.st (.pair (.int .i64) (.int .i64)))) (.pair (.int .i64) (.sl (.sl (.int .i64))))))) (.c (.val (.int .i64)) .e)) (F_laws_heldCombatTable k)) tnil))))) := (tab_cons (s_spec_ParseTable k) (tab_cons (s_impl_ParseTable k) (tab_cons (s_laws_eqCombatTable k) (tab_consI (by decide) (s_laws_markCombatTable_in k) (tab_cons (s_laws_heldCombatTable k) e0)))))
theorem s_laws_FnExactParseTable (k : Nat) : SoundF Tryd.prog glob 3 (ftab (.c (.val .str) .e) (F_laws_FnExactParseTable k)) :=
  fun_ok (cx := cx_laws_FnExactParseTable) (by kernel_rfl) ⟨types, (e_laws_FnExactParseTable k).1, (e_laws_FnExactParseTable k).2, mixed, rfl⟩ Tryd.func3 rfl (LoopsOK.nil) [] (by kernel_rfl) (fun x K => q_laws_FnExactParseTable k (fun a0 {_} K => spec_ParseTable k a0 K) (fun a0 {_} K => impl_ParseTable k a0 K) (fun a0 a1 {_} K => laws_eqCombatTable k a0 a1 K) (fun a0 a1 {_} K => laws_markCombatTable_in k a0 a1 K) (fun a0 a1 {_} K => laws_heldCombatTable k a0 a1 K) x K)
def E_laws_FnExactParseTable (k : Nat) : Tbl := tcons 3 (ftab (.c (.val .str) .e) (F_laws_FnExactParseTable k)) (E_laws_heldCombatTable k)
theorem E_laws_FnExactParseTable_ok (k : Nat) : SoundE Tryd.prog glob (E_laws_FnExactParseTable k) ∧ NatE (E_laws_FnExactParseTable k) := tab_cons (s_laws_FnExactParseTable k) (E_laws_heldCombatTable_ok k)
end Go.Proofs.YtncllndlbeghjaaDoor.TieParseTable
