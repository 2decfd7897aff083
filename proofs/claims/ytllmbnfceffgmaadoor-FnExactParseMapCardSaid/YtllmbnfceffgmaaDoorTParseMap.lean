import Derived.Test.YtllmbnfceffgmaaDoorEv3
import Derived.Test.YtllmbnfceffgmaaDoorLg1
import Derived.Test.YtllmbnfceffgmaaDoorShelf
import Derived.Lib.AtoiOr
import Derived.Lib.AtoiErrMem
import Derived.Lib.AppendIntMem
import Derived.WalkKit
import Derived.BigCall
import Derived.KernelRfl
import Derived.Eval
import Derived.Test.YtllmbnfceffgmaaDoorProg
import Derived.Test.YtllmbnfceffgmaaDoorChecked
set_option linter.unusedVariables false
set_option linter.unusedSimpArgs false
set_option linter.unusedSectionVars false
set_option linter.unusedVariables false
set_option maxRecDepth 100000
namespace Go.Proofs.YtllmbnfceffgmaaDoor.TieParseMap
open Go Go.Ev Go.Lg Go.Proofs Go.RowKit
def tys : Nat → Option Ty := lookT [(3, (.int .i64)), (4, .bool), (5, (.int .u8)), (9, .str), (22, (.sl (.int .i64))), (24, (.st (.pair (.int .i64) (.pair (.int .i64) (.pair (.sl (.int .i64)) (.pair (.sl (.int .i64)) (.sl (.int .i64)))))))), (44, (.st (.pair (.int .i64) (.int .i64)))), (59, (.sl .str)), (66, (.sl (.sl (.int .i64)))), (101, (.arr 6 (.st (.pair (.int .i64) (.int .i64))))), (102, (.sl (.int .u8))), (161, (.arr 20 (.int .u64)))]
theorem types : Types Tryd.prog tys := types_of (by kernel_rfl)
theorem mixed : Tryd.prog.follows .mixedOrders = true := Checked.mixed Tryd.checked
variable [GC]
def glob : Nat → AV := fun g => bif Nat.beq g 1 then .tab [.int .i64 GC.mx] else bif Nat.beq g 4 then .tab [(GC.e0 : IfV).1] else bif Nat.beq g 5 then .tab [(GC.e1 : IfV).1] else bif Nat.beq g 6 then .tab (Lib.pow10Tab.map fun z => Value.int .u64 z) else bif Nat.beq g 0 then .pval (.arr 6 (.st (.pair (.int .i64) (.int .i64)))) impl_directions else .bot
theorem e0 : SoundE Tryd.prog glob tnil ∧ NatE tnil := ⟨tnil_sound, tnil_nat⟩
theorem tab_cons {n : Nat} {t : FFun} {E : Tbl} (h : SoundF Tryd.prog glob n t) (h2 : SoundE Tryd.prog glob E ∧ NatE E) : SoundE Tryd.prog glob (tcons n t E) ∧ NatE (tcons n t E) := ⟨tcons_sound h h2.1, tcons_nat h h2.2⟩
theorem tab_consI {n m : Nat} {t : FFun} {E : Tbl} (hm : m ≠ 0) (h : SoundI Tryd.prog glob n m t) (h2 : SoundE Tryd.prog glob E ∧ NatE E) : SoundE Tryd.prog glob (tcons (n + 1000000 * m) t E) ∧ NatE (tcons (n + 1000000 * m) t E) := ⟨tconsI_sound hm h h2.1, tconsI_nat h h2.2⟩
/-- spec.l1Split -/
def cx_spec_l1Split : Cx := { N := 34, G := glob, C := tys, ad := fun d => false, wk := false }
def sp_spec_l1Split_l0 : LSp where
  cv := [(5, 2000005, .str)]
  ts := [(0, .val .str), (1, .val (.int .u8)), (5, .own 2000005), (6, .val (.int .i64)), (7, .val (.int .i64))]
  ids := [(2000005, .row .str)]
  tx := fun e => match e with | .exit i => bif Nat.beq i 0 then [0, 5, 6] else [] | .ret => [] | .normal => []
  ix := fun e => match e with | .exit i => bif Nat.beq i 0 then [2000005] else [] | .ret => [] | .normal => []
def F_spec_l1Split_l0 (k : Nat) : LArg sp_spec_l1Split_l0 := fun K n x y => spec_l1Split_l0 k (fun (y0 : ByteArray) (y1 : Int) (y2 : List ByteArray) => K (.exit 0) (mkSt [(0, .val .str y0), (5, .own 2000005 1), (6, .val (.int .i64) y1)] [(2000005, some (.row .str y2))])) n x.1 x.2.1 x.2.2.2.1 x.2.2.2.2.1 y.1
def LO_spec_l1Split_l0 (k : Nat) : LTbl := (lcons 4 (ltab sp_spec_l1Split_l0 (F_spec_l1Split_l0 k) k) lnil)
theorem lk_spec_l1Split_l0 (k : Nat) : LoopsOK Tryd.prog glob (tnil) cx_spec_l1Split (LO_spec_l1Split_l0 k) ((4, (loopB Tryd.f82 4)) :: []) :=
  LoopsOK.cons (LoopsOK.nil) (e0).2 (F := F_spec_l1Split_l0 k) k [] (by kernel_rfl) (by kernel_rfl) (fun K x y => rfl) (fun n x y K => by kernel_rfl)
def F_spec_l1Split (k : Nat) : FArg (.c (.val .str) (.c (.val (.int .u8)) .e)) := fun x K => spec_l1Split k x.1 x.2.1 (fun (r0 : List ByteArray) => K [⟨(.sl .str), r0, true⟩])
theorem s_spec_l1Split (k : Nat) : SoundF Tryd.prog glob 82 (ftab (.c (.val .str) (.c (.val (.int .u8)) .e)) (F_spec_l1Split k)) :=
  fun_ok (cx := cx_spec_l1Split) (by kernel_rfl) ⟨types, (e0).1, (e0).2, mixed, rfl⟩ Tryd.func82 rfl (lk_spec_l1Split_l0 k) [0] (by kernel_rfl) (fun x K => by kernel_rfl)
def E_spec_l1Split (k : Nat) : Tbl := tcons 82 (ftab (.c (.val .str) (.c (.val (.int .u8)) .e)) (F_spec_l1Split k)) (tnil)
theorem E_spec_l1Split_ok (k : Nat) : SoundE Tryd.prog glob (E_spec_l1Split k) ∧ NatE (E_spec_l1Split k) := tab_cons (s_spec_l1Split k) (e0)
/-- spec.l1In -/
def cx_spec_l1In : Cx := { N := 15, G := glob, C := tys, ad := fun d => false, wk := false }
def F_spec_l1In (k : Nat) : FArg (.c (.val (.int .i64)) (.c (.val (.int .i64)) (.c (.val (.int .i64)) .e))) := fun x K => spec_l1In x.1 x.2.1 x.2.2.1 (fun (r0 : Bool) => K [⟨.bool, r0, true⟩])
theorem s_spec_l1In (k : Nat) : SoundF Tryd.prog glob 76 (ftab (.c (.val (.int .i64)) (.c (.val (.int .i64)) (.c (.val (.int .i64)) .e))) (F_spec_l1In k)) :=
  fun_ok (cx := cx_spec_l1In) (by kernel_rfl) ⟨types, (E_spec_l1Split_ok k).1, (E_spec_l1Split_ok k).2, mixed, rfl⟩ Tryd.func76 rfl (LoopsOK.nil) [] (by kernel_rfl) (fun x K => by kernel_rfl)
def E_spec_l1In (k : Nat) : Tbl := tcons 76 (ftab (.c (.val (.int .i64)) (.c (.val (.int .i64)) (.c (.val (.int .i64)) .e))) (F_spec_l1In k)) (E_spec_l1Split k)
theorem E_spec_l1In_ok (k : Nat) : SoundE Tryd.prog glob (E_spec_l1In k) ∧ NatE (E_spec_l1In k) := tab_cons (s_spec_l1In k) (E_spec_l1Split_ok k)
/-- spec.l1Read -/
def cx_spec_l1Read : Cx := { N := 44, G := glob, C := tys, ad := fun d => false, wk := false }
def sp_spec_l1Read_l0 : LSp where
  cv := []
  ts := [(0, .val .str), (3, .val (.int .i64)), (4, .val (.int .i64))]
  ids := []
  tx := fun e => match e with | .exit i => bif Nat.beq i 0 then [3] else [] | .ret => [2] | .normal => []
  ix := fun e => match e with | .exit i => bif Nat.beq i 0 then [] else [] | .ret => [] | .normal => []
def F_spec_l1Read_l0 (k : Nat) : LArg sp_spec_l1Read_l0 := fun K n x y => spec_l1Read_l0 k (fun (y0 : Int) => K (.exit 0) (mkSt [(3, .val (.int .i64) y0)] [])) (fun (y0 : Int) => K (.ret) (mkSt [(2, .val (.int .i64) y0)] [])) n x.1 x.2.1 x.2.2.1
def LO_spec_l1Read_l0 (k : Nat) : LTbl := (lcons 5 (ltab sp_spec_l1Read_l0 (F_spec_l1Read_l0 k) k) lnil)
theorem lk_spec_l1Read_l0 (k : Nat) : LoopsOK Tryd.prog glob (E_spec_l1In k) cx_spec_l1Read (LO_spec_l1Read_l0 k) ((5, (loopB Tryd.f83 5)) :: []) :=
  LoopsOK.cons (LoopsOK.nil) (E_spec_l1In_ok k).2 (F := F_spec_l1Read_l0 k) k [] (by kernel_rfl) (by kernel_rfl) (fun K x y => rfl) (fun n x y K => by kernel_rfl)
def F_spec_l1Read (k : Nat) : FArg (.c (.val .str) .e) := fun x K => spec_l1Read k x.1 (fun (r0 : Int) => K [⟨(.int .i64), r0, true⟩])
theorem s_spec_l1Read (k : Nat) : SoundF Tryd.prog glob 83 (ftab (.c (.val .str) .e) (F_spec_l1Read k)) :=
  fun_ok (cx := cx_spec_l1Read) (by kernel_rfl) ⟨types, (E_spec_l1In_ok k).1, (E_spec_l1In_ok k).2, mixed, rfl⟩ Tryd.func83 rfl (lk_spec_l1Read_l0 k) [0] (by kernel_rfl) (fun x K => by kernel_rfl)
def E_spec_l1Read (k : Nat) : Tbl := tcons 83 (ftab (.c (.val .str) .e) (F_spec_l1Read k)) (E_spec_l1In k)
theorem E_spec_l1Read_ok (k : Nat) : SoundE Tryd.prog glob (E_spec_l1Read k) ∧ NatE (E_spec_l1Read k) := tab_cons (s_spec_l1Read k) (E_spec_l1In_ok k)
/-- spec.mNumbers -/
def cx_spec_mNumbers : Cx := { N := 20, G := glob, C := tys, ad := fun d => false, wk := false }
def sp_spec_mNumbers_l0 : LSp where
  cv := [(3, 2000003, (.int .i64))]
  ts := [(3, .own 2000003), (7, .val (.sl .str)), (8, .val (.int .i64)), (9, .val (.int .i64))]
  ids := [(2000003, .row (.int .i64))]
  tx := fun e => match e with | .exit i => bif Nat.beq i 0 then [3] else [] | .ret => [] | .normal => []
  ix := fun e => match e with | .exit i => bif Nat.beq i 0 then [2000003] else [] | .ret => [] | .normal => []
def F_spec_mNumbers_l0 (k : Nat) : LArg sp_spec_mNumbers_l0 := fun K n x y => spec_mNumbers_l0 k (fun (y0 : List Int) => K (.exit 0) (mkSt [(3, .own 2000003 1)] [(2000003, some (.row (.int .i64) y0))])) n x.2.1 x.2.2.1 x.2.2.2.1 y.1
def LO_spec_mNumbers_l0 (k : Nat) : LTbl := (lcons 3 (ltab sp_spec_mNumbers_l0 (F_spec_mNumbers_l0 k) k) lnil)
theorem lk_spec_mNumbers_l0 (k : Nat) : LoopsOK Tryd.prog glob (E_spec_l1Read k) cx_spec_mNumbers (LO_spec_mNumbers_l0 k) ((3, (loopB Tryd.f84 3)) :: []) :=
  LoopsOK.cons (LoopsOK.nil) (E_spec_l1Read_ok k).2 (F := F_spec_mNumbers_l0 k) k [] (by kernel_rfl) (by kernel_rfl) (fun K x y => rfl) (fun n x y K => by kernel_rfl)
def F_spec_mNumbers (k : Nat) : FArg (.c (.val (.sl .str)) .e) := fun x K => spec_mNumbers k x.1 (fun (r0 : List Int) => K [⟨(.sl (.int .i64)), r0, true⟩])
theorem s_spec_mNumbers (k : Nat) : SoundF Tryd.prog glob 84 (ftab (.c (.val (.sl .str)) .e) (F_spec_mNumbers k)) :=
  fun_ok (cx := cx_spec_mNumbers) (by kernel_rfl) ⟨types, (E_spec_l1Read_ok k).1, (E_spec_l1Read_ok k).2, mixed, rfl⟩ Tryd.func84 rfl (lk_spec_mNumbers_l0 k) [0] (by kernel_rfl) (fun x K => by kernel_rfl)
def E_spec_mNumbers (k : Nat) : Tbl := tcons 84 (ftab (.c (.val (.sl .str)) .e) (F_spec_mNumbers k)) (E_spec_l1Read k)
theorem E_spec_mNumbers_ok (k : Nat) : SoundE Tryd.prog glob (E_spec_mNumbers k) ∧ NatE (E_spec_mNumbers k) := tab_cons (s_spec_mNumbers k) (E_spec_l1Read_ok k)
/-- spec.mSize -/
def cx_spec_mSize : Cx := { N := 8, G := glob, C := tys, ad := fun d => false, wk := false }
def F_spec_mSize (k : Nat) : FArg (.c (.val (.st (.pair (.int .i64) (.pair (.int .i64) (.pair (.sl (.int .i64)) (.pair (.sl (.int .i64)) (.sl (.int .i64)))))))) .e) := fun x K => spec_mSize x.1 (fun (r0 : Int) => K [⟨(.int .i64), r0, true⟩])
theorem s_spec_mSize (k : Nat) : SoundF Tryd.prog glob 89 (ftab (.c (.val (.st (.pair (.int .i64) (.pair (.int .i64) (.pair (.sl (.int .i64)) (.pair (.sl (.int .i64)) (.sl (.int .i64)))))))) .e) (F_spec_mSize k)) :=
  fun_ok (cx := cx_spec_mSize) (by kernel_rfl) ⟨types, (E_spec_mNumbers_ok k).1, (E_spec_mNumbers_ok k).2, mixed, rfl⟩ Tryd.func89 rfl (LoopsOK.nil) [] (by kernel_rfl) (fun x K => by kernel_rfl)
def E_spec_mSize (k : Nat) : Tbl := tcons 89 (ftab (.c (.val (.st (.pair (.int .i64) (.pair (.int .i64) (.pair (.sl (.int .i64)) (.pair (.sl (.int .i64)) (.sl (.int .i64)))))))) .e) (F_spec_mSize k)) (E_spec_mNumbers k)
theorem E_spec_mSize_ok (k : Nat) : SoundE Tryd.prog glob (E_spec_mSize k) ∧ NatE (E_spec_mSize k) := tab_cons (s_spec_mSize k) (E_spec_mNumbers_ok k)
/-- spec.l1All -/
def cx_spec_l1All : Cx := { N := 21, G := glob, C := tys, ad := fun d => false, wk := false }
def sp_spec_l1All_l0 : LSp where
  cv := []
  ts := [(1, .val (.int .i64)), (2, .val (.int .i64)), (9, .val (.sl (.int .i64))), (10, .val (.int .i64)), (11, .val (.int .i64))]
  ids := []
  tx := fun e => match e with | .exit i => bif Nat.beq i 0 then [] else [] | .ret => [6] | .normal => []
  ix := fun e => match e with | .exit i => bif Nat.beq i 0 then [] else [] | .ret => [] | .normal => []
def F_spec_l1All_l0 (k : Nat) : LArg sp_spec_l1All_l0 := fun K n x y => spec_l1All_l0 k (K (.exit 0) (mkSt [] [])) (fun (y0 : Bool) => K (.ret) (mkSt [(6, .val .bool y0)] [])) n x.1 x.2.1 x.2.2.1 x.2.2.2.1 x.2.2.2.2.1
def LO_spec_l1All_l0 (k : Nat) : LTbl := (lcons 2 (ltab sp_spec_l1All_l0 (F_spec_l1All_l0 k) k) lnil)
theorem lk_spec_l1All_l0 (k : Nat) : LoopsOK Tryd.prog glob (E_spec_mSize k) cx_spec_l1All (LO_spec_l1All_l0 k) ((2, (loopB Tryd.f90 2)) :: []) :=
  LoopsOK.cons (LoopsOK.nil) (E_spec_mSize_ok k).2 (F := F_spec_l1All_l0 k) k [] (by kernel_rfl) (by kernel_rfl) (fun K x y => rfl) (fun n x y K => by kernel_rfl)
def F_spec_l1All (k : Nat) : FArg (.c (.val (.sl (.int .i64))) (.c (.val (.int .i64)) (.c (.val (.int .i64)) .e))) := fun x K => spec_l1All k x.1 x.2.1 x.2.2.1 (fun (r0 : Bool) => K [⟨.bool, r0, true⟩])
theorem s_spec_l1All (k : Nat) : SoundF Tryd.prog glob 90 (ftab (.c (.val (.sl (.int .i64))) (.c (.val (.int .i64)) (.c (.val (.int .i64)) .e))) (F_spec_l1All k)) :=
  fun_ok (cx := cx_spec_l1All) (by kernel_rfl) ⟨types, (E_spec_mSize_ok k).1, (E_spec_mSize_ok k).2, mixed, rfl⟩ Tryd.func90 rfl (lk_spec_l1All_l0 k) [0] (by kernel_rfl) (fun x K => by kernel_rfl)
def E_spec_l1All (k : Nat) : Tbl := tcons 90 (ftab (.c (.val (.sl (.int .i64))) (.c (.val (.int .i64)) (.c (.val (.int .i64)) .e))) (F_spec_l1All k)) (E_spec_mSize k)
theorem E_spec_l1All_ok (k : Nat) : SoundE Tryd.prog glob (E_spec_l1All k) ∧ NatE (E_spec_l1All k) := tab_cons (s_spec_l1All k) (E_spec_mSize_ok k)
/-- spec.mHex -/
def cx_spec_mHex : Cx := { N := 14, G := glob, C := tys, ad := fun d => false, wk := false }
def F_spec_mHex (k : Nat) : FArg (.c (.val (.st (.pair (.int .i64) (.pair (.int .i64) (.pair (.sl (.int .i64)) (.pair (.sl (.int .i64)) (.sl (.int .i64)))))))) (.c (.val (.int .i64)) .e)) := fun x K => spec_mHex x.1 x.2.1 (fun (r0 : Int × Int) => K [⟨(.st (.pair (.int .i64) (.int .i64))), r0, true⟩])
theorem s_spec_mHex (k : Nat) : SoundF Tryd.prog glob 69 (ftab (.c (.val (.st (.pair (.int .i64) (.pair (.int .i64) (.pair (.sl (.int .i64)) (.pair (.sl (.int .i64)) (.sl (.int .i64)))))))) (.c (.val (.int .i64)) .e)) (F_spec_mHex k)) :=
  fun_ok (cx := cx_spec_mHex) (by kernel_rfl) ⟨types, (E_spec_l1All_ok k).1, (E_spec_l1All_ok k).2, mixed, rfl⟩ Tryd.func69 rfl (LoopsOK.nil) [] (by kernel_rfl) (fun x K => by kernel_rfl)
def E_spec_mHex (k : Nat) : Tbl := tcons 69 (ftab (.c (.val (.st (.pair (.int .i64) (.pair (.int .i64) (.pair (.sl (.int .i64)) (.pair (.sl (.int .i64)) (.sl (.int .i64)))))))) (.c (.val (.int .i64)) .e)) (F_spec_mHex k)) (E_spec_l1All k)
theorem E_spec_mHex_ok (k : Nat) : SoundE Tryd.prog glob (E_spec_mHex k) ∧ NatE (E_spec_mHex k) := tab_cons (s_spec_mHex k) (E_spec_l1All_ok k)
/-- spec.hStep -/
def cx_spec_hStep : Cx := { N := 20, G := glob, C := tys, ad := fun d => false, wk := false }
def F_spec_hStep (k : Nat) : FArg (.c (.val (.st (.pair (.int .i64) (.int .i64)))) (.c (.val (.int .i64)) .e)) := fun x K => spec_hStep x.1 x.2.1 (fun (r0 : Int × Int) => K [⟨(.st (.pair (.int .i64) (.int .i64))), r0, true⟩])
theorem s_spec_hStep (k : Nat) : SoundF Tryd.prog glob 92 (ftab (.c (.val (.st (.pair (.int .i64) (.int .i64)))) (.c (.val (.int .i64)) .e)) (F_spec_hStep k)) :=
  fun_ok (cx := cx_spec_hStep) (by kernel_rfl) ⟨types, (E_spec_mHex_ok k).1, (E_spec_mHex_ok k).2, mixed, rfl⟩ Tryd.func92 rfl (LoopsOK.nil) [] (by kernel_rfl) (fun x K => by kernel_rfl)
def E_spec_hStep (k : Nat) : Tbl := tcons 92 (ftab (.c (.val (.st (.pair (.int .i64) (.int .i64)))) (.c (.val (.int .i64)) .e)) (F_spec_hStep k)) (E_spec_mHex k)
theorem E_spec_hStep_ok (k : Nat) : SoundE Tryd.prog glob (E_spec_hStep k) ∧ NatE (E_spec_hStep k) := tab_cons (s_spec_hStep k) (E_spec_mHex_ok k)
/-- spec.mIndex -/
def cx_spec_mIndex : Cx := { N := 29, G := glob, C := tys, ad := fun d => false, wk := false }
def F_spec_mIndex (k : Nat) : FArg (.c (.val (.st (.pair (.int .i64) (.pair (.int .i64) (.pair (.sl (.int .i64)) (.pair (.sl (.int .i64)) (.sl (.int .i64)))))))) (.c (.val (.st (.pair (.int .i64) (.int .i64)))) .e)) := fun x K => spec_mIndex x.1 x.2.1 (fun (r0 : Int) => K [⟨(.int .i64), r0, true⟩])
theorem s_spec_mIndex (k : Nat) : SoundF Tryd.prog glob 66 (ftab (.c (.val (.st (.pair (.int .i64) (.pair (.int .i64) (.pair (.sl (.int .i64)) (.pair (.sl (.int .i64)) (.sl (.int .i64)))))))) (.c (.val (.st (.pair (.int .i64) (.int .i64)))) .e)) (F_spec_mIndex k)) :=
  fun_ok (cx := cx_spec_mIndex) (by kernel_rfl) ⟨types, (E_spec_hStep_ok k).1, (E_spec_hStep_ok k).2, mixed, rfl⟩ Tryd.func66 rfl (LoopsOK.nil) [] (by kernel_rfl) (fun x K => by kernel_rfl)
def E_spec_mIndex (k : Nat) : Tbl := tcons 66 (ftab (.c (.val (.st (.pair (.int .i64) (.pair (.int .i64) (.pair (.sl (.int .i64)) (.pair (.sl (.int .i64)) (.sl (.int .i64)))))))) (.c (.val (.st (.pair (.int .i64) (.int .i64)))) .e)) (F_spec_mIndex k)) (E_spec_hStep k)
theorem E_spec_mIndex_ok (k : Nat) : SoundE Tryd.prog glob (E_spec_mIndex k) ∧ NatE (E_spec_mIndex k) := tab_cons (s_spec_mIndex k) (E_spec_hStep_ok k)
/-- spec.mNext -/
def cx_spec_mNext : Cx := { N := 14, G := glob, C := tys, ad := fun d => false, wk := false }
def F_spec_mNext (k : Nat) : FArg (.c (.val (.st (.pair (.int .i64) (.pair (.int .i64) (.pair (.sl (.int .i64)) (.pair (.sl (.int .i64)) (.sl (.int .i64)))))))) (.c (.val (.int .i64)) (.c (.val (.int .i64)) .e))) := fun x K => spec_mNext x.1 x.2.1 x.2.2.1 (fun (r0 : Int) => K [⟨(.int .i64), r0, true⟩])
theorem s_spec_mNext (k : Nat) : SoundF Tryd.prog glob 61 (ftab (.c (.val (.st (.pair (.int .i64) (.pair (.int .i64) (.pair (.sl (.int .i64)) (.pair (.sl (.int .i64)) (.sl (.int .i64)))))))) (.c (.val (.int .i64)) (.c (.val (.int .i64)) .e))) (F_spec_mNext k)) :=
  fun_ok (cx := cx_spec_mNext) (by kernel_rfl) ⟨types, (E_spec_mIndex_ok k).1, (E_spec_mIndex_ok k).2, mixed, rfl⟩ Tryd.func61 rfl (LoopsOK.nil) [] (by kernel_rfl) (fun x K => by kernel_rfl)
def E_spec_mNext (k : Nat) : Tbl := tcons 61 (ftab (.c (.val (.st (.pair (.int .i64) (.pair (.int .i64) (.pair (.sl (.int .i64)) (.pair (.sl (.int .i64)) (.sl (.int .i64)))))))) (.c (.val (.int .i64)) (.c (.val (.int .i64)) .e))) (F_spec_mNext k)) (E_spec_mIndex k)
theorem E_spec_mNext_ok (k : Nat) : SoundE Tryd.prog glob (E_spec_mNext k) ∧ NatE (E_spec_mNext k) := tab_cons (s_spec_mNext k) (E_spec_mIndex_ok k)
/-- spec.l1Rising -/
def cx_spec_l1Rising : Cx := { N := 35, G := glob, C := tys, ad := fun d => false, wk := false }
def sp_spec_l1Rising_l0 : LSp where
  cv := []
  ts := [(0, .val (.sl (.int .i64))), (1, .val (.int .i64)), (2, .val (.int .i64)), (9, .val (.sl (.int .i64))), (10, .val (.int .i64)), (11, .val (.int .i64))]
  ids := []
  tx := fun e => match e with | .exit i => bif Nat.beq i 0 then [] else [] | .ret => [6] | .normal => []
  ix := fun e => match e with | .exit i => bif Nat.beq i 0 then [] else [] | .ret => [] | .normal => []
def F_spec_l1Rising_l0 (k : Nat) : LArg sp_spec_l1Rising_l0 := fun K n x y => spec_l1Rising_l0 k (K (.exit 0) (mkSt [] [])) (fun (y0 : Bool) => K (.ret) (mkSt [(6, .val .bool y0)] [])) n x.1 x.2.1 x.2.2.1 x.2.2.2.1 x.2.2.2.2.1 x.2.2.2.2.2.1
def LO_spec_l1Rising_l0 (k : Nat) : LTbl := (lcons 2 (ltab sp_spec_l1Rising_l0 (F_spec_l1Rising_l0 k) k) lnil)
theorem lk_spec_l1Rising_l0 (k : Nat) : LoopsOK Tryd.prog glob (E_spec_mNext k) cx_spec_l1Rising (LO_spec_l1Rising_l0 k) ((2, (loopB Tryd.f91 2)) :: []) :=
  LoopsOK.cons (LoopsOK.nil) (E_spec_mNext_ok k).2 (F := F_spec_l1Rising_l0 k) k [] (by kernel_rfl) (by kernel_rfl) (fun K x y => rfl) (fun n x y K => by kernel_rfl)
def F_spec_l1Rising (k : Nat) : FArg (.c (.val (.sl (.int .i64))) (.c (.val (.int .i64)) (.c (.val (.int .i64)) .e))) := fun x K => spec_l1Rising k x.1 x.2.1 x.2.2.1 (fun (r0 : Bool) => K [⟨.bool, r0, true⟩])
theorem s_spec_l1Rising (k : Nat) : SoundF Tryd.prog glob 91 (ftab (.c (.val (.sl (.int .i64))) (.c (.val (.int .i64)) (.c (.val (.int .i64)) .e))) (F_spec_l1Rising k)) :=
  fun_ok (cx := cx_spec_l1Rising) (by kernel_rfl) ⟨types, (E_spec_mNext_ok k).1, (E_spec_mNext_ok k).2, mixed, rfl⟩ Tryd.func91 rfl (lk_spec_l1Rising_l0 k) [0] (by kernel_rfl) (fun x K => by kernel_rfl)
def E_spec_l1Rising (k : Nat) : Tbl := tcons 91 (ftab (.c (.val (.sl (.int .i64))) (.c (.val (.int .i64)) (.c (.val (.int .i64)) .e))) (F_spec_l1Rising k)) (E_spec_mNext k)
theorem E_spec_l1Rising_ok (k : Nat) : SoundE Tryd.prog glob (E_spec_l1Rising k) ∧ NatE (E_spec_l1Rising k) := tab_cons (s_spec_l1Rising k) (E_spec_mNext_ok k)
/-- spec.mEdges -/
def cx_spec_mEdges : Cx := { N := 36, G := glob, C := tys, ad := fun d => false, wk := false }
def sp_spec_mEdges_l0 : LSp where
  cv := []
  ts := [(1, .val (.sl (.int .i64))), (2, .ptr 2), (7, .val (.sl (.int .i64))), (8, .val (.int .i64)), (9, .val (.int .i64))]
  ids := [(2, .box (.st (.pair (.int .i64) (.pair (.int .i64) (.pair (.sl (.int .i64)) (.pair (.sl (.int .i64)) (.sl (.int .i64))))))) (.val (.st (.pair (.int .i64) (.pair (.int .i64) (.pair (.sl (.int .i64)) (.pair (.sl (.int .i64)) (.sl (.int .i64)))))))))]
  tx := fun e => match e with | .exit i => bif Nat.beq i 0 then [1, 2] else [] | .ret => [4] | .normal => []
  ix := fun e => match e with | .exit i => bif Nat.beq i 0 then [2] else [] | .ret => [] | .normal => []
def F_spec_mEdges_l0 (k : Nat) : LArg sp_spec_mEdges_l0 := fun K n x y => spec_mEdges_l0 k (fun (y0 : List Int) (y1 : Int × Int × (List Int) × (List Int) × List Int) => K (.exit 0) (mkSt [(1, .val (.sl (.int .i64)) y0), (2, .ptr 2 1 [])] [(2, some (.box (.st (.pair (.int .i64) (.pair (.int .i64) (.pair (.sl (.int .i64)) (.pair (.sl (.int .i64)) (.sl (.int .i64))))))) (.val (.st (.pair (.int .i64) (.pair (.int .i64) (.pair (.sl (.int .i64)) (.pair (.sl (.int .i64)) (.sl (.int .i64))))))) y1)))])) (fun (y0 : Bool) => K (.ret) (mkSt [(4, .val .bool y0)] [])) n x.1 x.2.2.1 x.2.2.2.1 x.2.2.2.2.1 y.1
def LO_spec_mEdges_l0 (k : Nat) : LTbl := (lcons 2 (ltab sp_spec_mEdges_l0 (F_spec_mEdges_l0 k) k) lnil)
theorem lk_spec_mEdges_l0 (k : Nat) : LoopsOK Tryd.prog glob (E_spec_l1Rising k) cx_spec_mEdges (LO_spec_mEdges_l0 k) ((2, (loopB Tryd.f60 2)) :: []) :=
  LoopsOK.cons (LoopsOK.nil) (E_spec_l1Rising_ok k).2 (F := F_spec_mEdges_l0 k) k [] (by kernel_rfl) (by kernel_rfl) (fun K x y => rfl) (fun n x y K => by kernel_rfl)
def F_spec_mEdges (k : Nat) : FArg (.c (.val (.st (.pair (.int .i64) (.pair (.int .i64) (.pair (.sl (.int .i64)) (.pair (.sl (.int .i64)) (.sl (.int .i64)))))))) (.c (.val (.sl (.int .i64))) .e)) := fun x K => spec_mEdges k x.1 x.2.1 (fun (r0 : Bool) => K [⟨.bool, r0, true⟩])
theorem s_spec_mEdges (k : Nat) : SoundF Tryd.prog glob 60 (ftab (.c (.val (.st (.pair (.int .i64) (.pair (.int .i64) (.pair (.sl (.int .i64)) (.pair (.sl (.int .i64)) (.sl (.int .i64)))))))) (.c (.val (.sl (.int .i64))) .e)) (F_spec_mEdges k)) :=
  fun_ok (cx := cx_spec_mEdges) (by kernel_rfl) ⟨types, (E_spec_l1Rising_ok k).1, (E_spec_l1Rising_ok k).2, mixed, rfl⟩ Tryd.func60 rfl (lk_spec_mEdges_l0 k) [0] (by kernel_rfl) (fun x K => by kernel_rfl)
def E_spec_mEdges (k : Nat) : Tbl := tcons 60 (ftab (.c (.val (.st (.pair (.int .i64) (.pair (.int .i64) (.pair (.sl (.int .i64)) (.pair (.sl (.int .i64)) (.sl (.int .i64)))))))) (.c (.val (.sl (.int .i64))) .e)) (F_spec_mEdges k)) (E_spec_l1Rising k)
theorem E_spec_mEdges_ok (k : Nat) : SoundE Tryd.prog glob (E_spec_mEdges k) ∧ NatE (E_spec_mEdges k) := tab_cons (s_spec_mEdges k) (E_spec_l1Rising_ok k)
/-- spec.mGood -/
def cx_spec_mGood : Cx := { N := 36, G := glob, C := tys, ad := fun d => false, wk := false }
def F_spec_mGood (k : Nat) : FArg (.c (.val (.st (.pair (.int .i64) (.pair (.int .i64) (.pair (.sl (.int .i64)) (.pair (.sl (.int .i64)) (.sl (.int .i64)))))))) .e) := fun x K => spec_mGood k x.1 (fun (r0 : Bool) => K [⟨.bool, r0, true⟩])
theorem s_spec_mGood (k : Nat) : SoundF Tryd.prog glob 55 (ftab (.c (.val (.st (.pair (.int .i64) (.pair (.int .i64) (.pair (.sl (.int .i64)) (.pair (.sl (.int .i64)) (.sl (.int .i64)))))))) .e) (F_spec_mGood k)) :=
  fun_ok (cx := cx_spec_mGood) (by kernel_rfl) ⟨types, (E_spec_mEdges_ok k).1, (E_spec_mEdges_ok k).2, mixed, rfl⟩ Tryd.func55 rfl (LoopsOK.nil) [] (by kernel_rfl) (fun x K => by kernel_rfl)
def E_spec_mGood (k : Nat) : Tbl := tcons 55 (ftab (.c (.val (.st (.pair (.int .i64) (.pair (.int .i64) (.pair (.sl (.int .i64)) (.pair (.sl (.int .i64)) (.sl (.int .i64)))))))) .e) (F_spec_mGood k)) (E_spec_mEdges k)
theorem E_spec_mGood_ok (k : Nat) : SoundE Tryd.prog glob (E_spec_mGood k) ∧ NatE (E_spec_mGood k) := tab_cons (s_spec_mGood k) (E_spec_mEdges_ok k)
/-- spec.l1Num -/
def cx_spec_l1Num : Cx := { N := 20, G := glob, C := tys, ad := fun d => false, wk := false }
def F_spec_l1Num (d : Nat) : FArg (.c (.val (.int .i64)) .e) := fun x K => spec_l1Num d x.1 (fun (r0 : ByteArray) => K [⟨.str, r0, true⟩])
theorem s_spec_l1Num (k : Nat) : SoundF Tryd.prog glob 98 (ftab (.c (.val (.int .i64)) .e) (F_spec_l1Num k)) :=
  rec_ok (cx := cx_spec_l1Num) (by kernel_rfl) ⟨types, (E_spec_mGood_ok k).1, (E_spec_mGood_ok k).2, mixed, rfl⟩ Tryd.func98 rfl (by kernel_rfl) (fun x K => rfl) (fun d x K => by kernel_rfl) k
def E_spec_l1Num (k : Nat) : Tbl := tcons 98 (ftab (.c (.val (.int .i64)) .e) (F_spec_l1Num k)) (E_spec_mGood k)
theorem E_spec_l1Num_ok (k : Nat) : SoundE Tryd.prog glob (E_spec_l1Num k) ∧ NatE (E_spec_l1Num k) := tab_cons (s_spec_l1Num k) (E_spec_mGood_ok k)
/-- spec.mList -/
def cx_spec_mList : Cx := { N := 21, G := glob, C := tys, ad := fun d => false, wk := false }
def sp_spec_mList_l0 : LSp where
  cv := []
  ts := [(0, .val .str), (7, .val (.sl (.int .i64))), (8, .val (.int .i64)), (9, .val (.int .i64))]
  ids := []
  tx := fun e => match e with | .exit i => bif Nat.beq i 0 then [0] else [] | .ret => [] | .normal => []
  ix := fun e => match e with | .exit i => bif Nat.beq i 0 then [] else [] | .ret => [] | .normal => []
def F_spec_mList_l0 (k : Nat) : LArg sp_spec_mList_l0 := fun K n x y => spec_mList_l0 k (fun (y0 : ByteArray) => K (.exit 0) (mkSt [(0, .val .str y0)] [])) n x.1 x.2.1 x.2.2.1 x.2.2.2.1
def LO_spec_mList_l0 (k : Nat) : LTbl := (lcons 2 (ltab sp_spec_mList_l0 (F_spec_mList_l0 k) k) lnil)
theorem lk_spec_mList_l0 (k : Nat) : LoopsOK Tryd.prog glob (E_spec_l1Num k) cx_spec_mList (LO_spec_mList_l0 k) ((2, (loopB Tryd.f99 2)) :: []) :=
  LoopsOK.cons (LoopsOK.nil) (E_spec_l1Num_ok k).2 (F := F_spec_mList_l0 k) k [] (by kernel_rfl) (by kernel_rfl) (fun K x y => rfl) (fun n x y K => by kernel_rfl)
def F_spec_mList (k : Nat) : FArg (.c (.val .str) (.c (.val (.sl (.int .i64))) .e)) := fun x K => spec_mList k x.1 x.2.1 (fun (r0 : ByteArray) => K [⟨.str, r0, true⟩])
theorem s_spec_mList (k : Nat) : SoundF Tryd.prog glob 99 (ftab (.c (.val .str) (.c (.val (.sl (.int .i64))) .e)) (F_spec_mList k)) :=
  fun_ok (cx := cx_spec_mList) (by kernel_rfl) ⟨types, (E_spec_l1Num_ok k).1, (E_spec_l1Num_ok k).2, mixed, rfl⟩ Tryd.func99 rfl (lk_spec_mList_l0 k) [0] (by kernel_rfl) (fun x K => by kernel_rfl)
def E_spec_mList (k : Nat) : Tbl := tcons 99 (ftab (.c (.val .str) (.c (.val (.sl (.int .i64))) .e)) (F_spec_mList k)) (E_spec_l1Num k)
theorem E_spec_mList_ok (k : Nat) : SoundE Tryd.prog glob (E_spec_mList k) ∧ NatE (E_spec_mList k) := tab_cons (s_spec_mList k) (E_spec_l1Num_ok k)
/-- spec.mText -/
def cx_spec_mText : Cx := { N := 48, G := glob, C := tys, ad := fun d => false, wk := false }
def sp_spec_mText_l0 : LSp where
  cv := []
  ts := [(1, .ptr 1), (3, .val .str), (17, .val (.sl (.int .i64))), (18, .val (.int .i64)), (19, .val (.int .i64))]
  ids := [(1, .box (.st (.pair (.int .i64) (.pair (.int .i64) (.pair (.sl (.int .i64)) (.pair (.sl (.int .i64)) (.sl (.int .i64))))))) (.val (.st (.pair (.int .i64) (.pair (.int .i64) (.pair (.sl (.int .i64)) (.pair (.sl (.int .i64)) (.sl (.int .i64)))))))))]
  tx := fun e => match e with | .exit i => bif Nat.beq i 0 then [1, 3] else [] | .ret => [] | .normal => []
  ix := fun e => match e with | .exit i => bif Nat.beq i 0 then [1] else [] | .ret => [] | .normal => []
def F_spec_mText_l0 (k : Nat) : LArg sp_spec_mText_l0 := fun K n x y => spec_mText_l0 k (fun (y0 : ByteArray) (y1 : Int × Int × (List Int) × (List Int) × List Int) => K (.exit 0) (mkSt [(1, .ptr 1 1 []), (3, .val .str y0)] [(1, some (.box (.st (.pair (.int .i64) (.pair (.int .i64) (.pair (.sl (.int .i64)) (.pair (.sl (.int .i64)) (.sl (.int .i64))))))) (.val (.st (.pair (.int .i64) (.pair (.int .i64) (.pair (.sl (.int .i64)) (.pair (.sl (.int .i64)) (.sl (.int .i64))))))) y1)))])) n x.2.1 x.2.2.1 x.2.2.2.1 x.2.2.2.2.1 y.1
def LO_spec_mText_l0 (k : Nat) : LTbl := (lcons 3 (ltab sp_spec_mText_l0 (F_spec_mText_l0 k) k) lnil)
theorem lk_spec_mText_l0 (k : Nat) : LoopsOK Tryd.prog glob (E_spec_mList k) cx_spec_mText (LO_spec_mText_l0 k) ((3, (loopB Tryd.f79 3)) :: []) :=
  LoopsOK.cons (LoopsOK.nil) (E_spec_mList_ok k).2 (F := F_spec_mText_l0 k) k [] (by kernel_rfl) (by kernel_rfl) (fun K x y => rfl) (fun n x y K => by kernel_rfl)
def F_spec_mText (k : Nat) : FArg (.c (.val (.st (.pair (.int .i64) (.pair (.int .i64) (.pair (.sl (.int .i64)) (.pair (.sl (.int .i64)) (.sl (.int .i64)))))))) .e) := fun x K => spec_mText k x.1 (fun (r0 : ByteArray) => K [⟨.str, r0, true⟩])
theorem s_spec_mText (k : Nat) : SoundF Tryd.prog glob 79 (ftab (.c (.val (.st (.pair (.int .i64) (.pair (.int .i64) (.pair (.sl (.int .i64)) (.pair (.sl (.int .i64)) (.sl (.int .i64)))))))) .e) (F_spec_mText k)) :=
  fun_ok (cx := cx_spec_mText) (by kernel_rfl) ⟨types, (E_spec_mList_ok k).1, (E_spec_mList_ok k).2, mixed, rfl⟩ Tryd.func79 rfl (lk_spec_mText_l0 k) [0] (by kernel_rfl) (fun x K => by kernel_rfl)
def E_spec_mText (k : Nat) : Tbl := tcons 79 (ftab (.c (.val (.st (.pair (.int .i64) (.pair (.int .i64) (.pair (.sl (.int .i64)) (.pair (.sl (.int .i64)) (.sl (.int .i64)))))))) .e) (F_spec_mText k)) (E_spec_mList k)
theorem E_spec_mText_ok (k : Nat) : SoundE Tryd.prog glob (E_spec_mText k) ∧ NatE (E_spec_mText k) := tab_cons (s_spec_mText k) (E_spec_mList_ok k)
/-- spec.mParse -/
def cx_spec_mParse : Cx := { N := 88, G := glob, C := tys, ad := fun d => false, wk := true }
def sp_spec_mParse_l0 : LSp where
  cv := []
  ts := [(0, .val .str), (2, .ptr 2), (4, .ptr 4), (6, .val .str), (8, .val (.int .i64)), (11, .val (.sl .str)), (12, .val (.int .i64)), (13, .val (.int .i64))]
  ids := [(2, .box (.st (.pair (.int .i64) (.pair (.int .i64) (.pair (.sl (.int .i64)) (.pair (.sl (.int .i64)) (.sl (.int .i64))))))) (.agg (.c (.val (.int .i64)) (.c (.val (.int .i64)) (.c (.own 2200042) (.c (.own 2200043) (.c (.own 2200044) .e))))))), (4, .box (.st (.pair (.int .i64) (.pair (.int .i64) (.pair (.sl (.int .i64)) (.pair (.sl (.int .i64)) (.sl (.int .i64))))))) (.agg (.c (.val (.int .i64)) (.c (.val (.int .i64)) (.c (.own 2200082) (.c (.val (.sl (.int .i64))) (.c (.val (.sl (.int .i64))) .e))))))), (2200042, .row (.int .i64)), (2200043, .row (.int .i64)), (2200044, .row (.int .i64)), (2200082, .row (.int .i64))]
  tx := fun e => match e with | .exit i => bif Nat.beq i 3 then [0, 2, 4, 11, 12, 13] else [] | .ret => [] | .normal => []
  ix := fun e => match e with | .exit i => bif Nat.beq i 3 then [2, 4, 2200042, 2200043, 2200044, 2200082] else [] | .ret => [] | .normal => []
def F_spec_mParse_l0 (k : Nat) : LArg sp_spec_mParse_l0 := fun K n x y => spec_mParse_l0 k (fun (y0 : ByteArray) (y1 : List ByteArray) (y2 : Int) (y3 : Int) (y4 : Int) (y5 : Int) (y6 : Int) (y7 : Int) (y8 : List Int) (y9 : List Int) (y10 : List Int) (y11 : List Int) (y12 : List Int) (y13 : List Int) => K (.exit 3) (mkSt [(0, .val .str y0), (2, .ptr 2 1 []), (4, .ptr 4 1 []), (11, .val (.sl .str) y1), (12, .val (.int .i64) y2), (13, .val (.int .i64) y3)] [(2, some (.box (.st (.pair (.int .i64) (.pair (.int .i64) (.pair (.sl (.int .i64)) (.pair (.sl (.int .i64)) (.sl (.int .i64))))))) (.agg [.val (.int .i64) y4, .val (.int .i64) y5, .own 2200042 1, .own 2200043 1, .own 2200044 1]))), (4, some (.box (.st (.pair (.int .i64) (.pair (.int .i64) (.pair (.sl (.int .i64)) (.pair (.sl (.int .i64)) (.sl (.int .i64))))))) (.agg [.val (.int .i64) y6, .val (.int .i64) y7, .own 2200082 1, .val (.sl (.int .i64)) y8, .val (.sl (.int .i64)) y9]))), (2200042, some (.row (.int .i64) y10)), (2200043, some (.row (.int .i64) y11)), (2200044, some (.row (.int .i64) y12)), (2200082, some (.row (.int .i64) y13))])) n x.1 x.2.2.2.1 x.2.2.2.2.1 x.2.2.2.2.2.1 x.2.2.2.2.2.2.1 x.2.2.2.2.2.2.2.1 y.1.1 y.1.2.1 y.2.1.1 y.2.1.2.1 y.2.1.2.2.2.1 y.2.1.2.2.2.2.1 y.2.2.1 y.2.2.2.1 y.2.2.2.2.1 y.2.2.2.2.2.1
def LO_spec_mParse_l0 (k : Nat) : LTbl := (lcons 7 (ltab sp_spec_mParse_l0 (F_spec_mParse_l0 k) k) lnil)
theorem lk_spec_mParse_l0 (k : Nat) : LoopsOK Tryd.prog glob (E_spec_mText k) cx_spec_mParse (LO_spec_mParse_l0 k) ((7, (loopB Tryd.f49 7)) :: []) :=
  LoopsOK.cons (LoopsOK.nil) (E_spec_mText_ok k).2 (F := F_spec_mParse_l0 k) k [] (by kernel_rfl) (by kernel_rfl) (fun K x y => rfl) (fun n x y K => by kernel_rfl)
def sp_spec_mParse_l1 : LSp where
  cv := [(10000202, 2200042, (.int .i64)), (10000203, 2200043, (.int .i64)), (10000204, 2200044, (.int .i64)), (10000402, 2200082, (.int .i64)), (10000403, 0, (.int .i64)), (10000404, 0, (.int .i64))]
  ts := [(0, .val .str), (2, .ptr 2), (4, .ptr 4), (11, .val (.sl .str)), (12, .val (.int .i64)), (13, .val (.int .i64))]
  ids := [(2, .box (.st (.pair (.int .i64) (.pair (.int .i64) (.pair (.sl (.int .i64)) (.pair (.sl (.int .i64)) (.sl (.int .i64))))))) (.agg (.c (.val (.int .i64)) (.c (.val (.int .i64)) (.c (.own 2200042) (.c (.own 2200043) (.c (.own 2200044) .e))))))), (4, .box (.st (.pair (.int .i64) (.pair (.int .i64) (.pair (.sl (.int .i64)) (.pair (.sl (.int .i64)) (.sl (.int .i64))))))) (.agg (.c (.val (.int .i64)) (.c (.val (.int .i64)) (.c (.own 2200082) (.c (.val (.sl (.int .i64))) (.c (.val (.sl (.int .i64))) .e))))))), (2200042, .row (.int .i64)), (2200043, .row (.int .i64)), (2200044, .row (.int .i64)), (2200082, .row (.int .i64))]
  tx := fun e => match e with | .exit i => bif Nat.beq i 0 then [0, 2, 4] else [] | .ret => [] | .normal => []
  ix := fun e => match e with | .exit i => bif Nat.beq i 0 then [2, 4, 2200042, 2200043, 2200044, 2200082] else [] | .ret => [] | .normal => []
def F_spec_mParse_l1 (k : Nat) : LArg sp_spec_mParse_l1 := fun K n x y => spec_mParse_l1 k (fun (y0 : ByteArray) (y1 : Int) (y2 : Int) (y3 : Int) (y4 : Int) (y5 : List Int) (y6 : List Int) (y7 : List Int) (y8 : List Int) (y9 : List Int) (y10 : List Int) => K (.exit 0) (mkSt [(0, .val .str y0), (2, .ptr 2 1 []), (4, .ptr 4 1 [])] [(2, some (.box (.st (.pair (.int .i64) (.pair (.int .i64) (.pair (.sl (.int .i64)) (.pair (.sl (.int .i64)) (.sl (.int .i64))))))) (.agg [.val (.int .i64) y1, .val (.int .i64) y2, .own 2200042 1, .own 2200043 1, .own 2200044 1]))), (4, some (.box (.st (.pair (.int .i64) (.pair (.int .i64) (.pair (.sl (.int .i64)) (.pair (.sl (.int .i64)) (.sl (.int .i64))))))) (.agg [.val (.int .i64) y3, .val (.int .i64) y4, .own 2200082 1, .val (.sl (.int .i64)) y5, .val (.sl (.int .i64)) y6]))), (2200042, some (.row (.int .i64) y7)), (2200043, some (.row (.int .i64) y8)), (2200044, some (.row (.int .i64) y9)), (2200082, some (.row (.int .i64) y10))])) n x.1 x.2.2.2.1 x.2.2.2.2.1 x.2.2.2.2.2.1 y.1.1 y.1.2.1 y.2.1.1 y.2.1.2.1 y.2.1.2.2.2.1 y.2.1.2.2.2.2.1 y.2.2.1 y.2.2.2.1 y.2.2.2.2.1 y.2.2.2.2.2.1
def LO_spec_mParse_l1 (k : Nat) : LTbl := (lcons 3 (ltab sp_spec_mParse_l1 (F_spec_mParse_l1 k) k) (LO_spec_mParse_l0 k))
theorem lk_spec_mParse_l1 (k : Nat) : LoopsOK Tryd.prog glob (E_spec_mText k) cx_spec_mParse (LO_spec_mParse_l1 k) ((3, (loopB Tryd.f49 3)) :: ((7, (loopB Tryd.f49 7)) :: [])) :=
  LoopsOK.cons (lk_spec_mParse_l0 k) (E_spec_mText_ok k).2 (F := F_spec_mParse_l1 k) k [0] (by kernel_rfl) (by kernel_rfl) (fun K x y => rfl) (fun n x y K => by kernel_rfl)
def F_spec_mParse (k : Nat) : FArg (.c (.val .str) .e) := fun x K => spec_mParse k x.1 (fun (r0 : Int × Int × (List Int) × (List Int) × List Int) (r1 : Bool) => K [⟨(.st (.pair (.int .i64) (.pair (.int .i64) (.pair (.sl (.int .i64)) (.pair (.sl (.int .i64)) (.sl (.int .i64))))))), r0, false⟩, ⟨.bool, r1, true⟩])
theorem s_spec_mParse (k : Nat) : SoundF Tryd.prog glob 49 (ftab (.c (.val .str) .e) (F_spec_mParse k)) :=
  fun_ok (cx := cx_spec_mParse) (by kernel_rfl) ⟨types, (E_spec_mText_ok k).1, (E_spec_mText_ok k).2, mixed, rfl⟩ Tryd.func49 rfl (lk_spec_mParse_l1 k) [0] (by kernel_rfl) (fun x K => by kernel_rfl)
def E_spec_mParse (k : Nat) : Tbl := tcons 49 (ftab (.c (.val .str) .e) (F_spec_mParse k)) (E_spec_mText k)
theorem E_spec_mParse_ok (k : Nat) : SoundE Tryd.prog glob (E_spec_mParse k) ∧ NatE (E_spec_mParse k) := tab_cons (s_spec_mParse k) (E_spec_mText_ok k)
/-- spec.ParseMap -/
def cx_spec_ParseMap : Cx := { N := 8, G := glob, C := tys, ad := fun d => false, wk := false }
def F_spec_ParseMap (k : Nat) : FArg (.c (.val .str) .e) := fun x K => spec_ParseMap k x.1 (fun (r0 : Int × Int × (List Int) × (List Int) × List Int) (r1 : Bool) => K [⟨(.st (.pair (.int .i64) (.pair (.int .i64) (.pair (.sl (.int .i64)) (.pair (.sl (.int .i64)) (.sl (.int .i64))))))), r0, false⟩, ⟨.bool, r1, true⟩])
theorem s_spec_ParseMap (k : Nat) : SoundF Tryd.prog glob 15 (ftab (.c (.val .str) .e) (F_spec_ParseMap k)) :=
  fun_ok (cx := cx_spec_ParseMap) (by kernel_rfl) ⟨types, (E_spec_mParse_ok k).1, (E_spec_mParse_ok k).2, mixed, rfl⟩ Tryd.func15 rfl (LoopsOK.nil) [] (by kernel_rfl) (fun x K => by kernel_rfl)
def E_spec_ParseMap (k : Nat) : Tbl := tcons 15 (ftab (.c (.val .str) .e) (F_spec_ParseMap k)) (E_spec_mParse k)
theorem E_spec_ParseMap_ok (k : Nat) : SoundE Tryd.prog glob (E_spec_ParseMap k) ∧ NatE (E_spec_ParseMap k) := tab_cons (s_spec_ParseMap k) (E_spec_mParse_ok k)
/-- strings.Split -/
def F_strings_Split (k : Nat) : FArg (.c (.val .str) (.c (.val .str) .e)) := fun x K => strings_Split x.1 x.2.1 fun r => K [⟨.sl .str, r, true⟩]
theorem s_strings_Split (k : Nat) : SoundF Tryd.prog glob 50 (ftab (.c (.val .str) (.c (.val .str) .e)) (F_strings_Split k)) := split_sound (g := 1) (m := GC.mx) (by kernel_rfl) rfl (fun s sep m w hs hm h1 => Tryd.strings_Split s sep m w hs hm h1)
def E_strings_Split (k : Nat) : Tbl := tcons 50 (ftab (.c (.val .str) (.c (.val .str) .e)) (F_strings_Split k)) (E_spec_ParseMap k)
theorem E_strings_Split_ok (k : Nat) : SoundE Tryd.prog glob (E_strings_Split k) ∧ NatE (E_strings_Split k) := tab_cons (s_strings_Split k) (E_spec_ParseMap_ok k)
/-- impl.readInt -/
theorem itoa_toList (v : Int) : ByteArray.toList (itoaB v) = Lib.itoa v := by
  unfold itoaB
  simp
theorem var_below {P : Program} {w w' : World} {n : String} {cs : Array Value} (hb : Below w.heap.size w w') (h : w.var? P n = some cs) : w'.var? P n = some cs := by
  unfold World.var? at h ⊢
  cases hg : P.globalNamed n with
  | none => rw [hg] at h; cases h
  | some g =>
    rw [hg] at h
    simp only [Option.bind_some] at h ⊢
    have hlt : g < w.heap.size := by
      cases hh : w.heap[g]? with
      | none => rw [hh] at h; cases h
      | some o => exact (Array.getElem?_eq_some_iff.1 hh).1
    rw [hb.block g hlt]; exact h
theorem readInt_walk (s : ByteArray) (hlim : s.size ≤ 281474976710656) (ev0 ev1 : Value) (w : World) (hv0 : w.cell? ⟨4, 0, none⟩ = some ev0) (he0 : ev0 = .nilIface ∨ ∃ te pe, ev0 = .iface te pe) (hv1 : w.cell? ⟨5, 0, none⟩ = some ev1) (he1 : ev1 = .nilIface ∨ ∃ te pe, ev1 = .iface te pe)
    (htab : Lib.TabIs Tryd.prog w "internal/strconv.uint64pow10" .u64 Lib.pow10Tab) :
    Calls Tryd.prog 86 #[.string s] w fun e w' => e = .returned (.tuple #[.int .i64 (readIV s).1, .bool (readIV s).2]) ∧ Below w.heap.size w w' := by
  cases h : Lib.atoiAll s.data.toList with
  | ok v =>
    by_cases hL : (10 : Int) < ((ByteArray.size s : Nat) : Int)
    · have hr : readIV s = (0, false) := by unfold readIV; rw [h]; simp only [decide_eq_true hL, Bool.true_or, cond_true]
      rw [hr]
      go_enter Tryd.func86, Tryd.ntmps86
      go_wp2_with (go_at_call 108; refine (Tryd.strconv_Atoi_ok s (by omega) v h _).mono ?_; rintro e w' ⟨rfl, hw⟩)
      go_ret2
      refine ⟨rfl, ?_⟩
      rcases hw with rfl | ⟨t, rfl⟩
      · exact Below.refl _ _
      · exact Lib.bytesWorld_below _ _ _
    · have hv := Lib.atoiAll_bounds h
      go_enter Tryd.func86, Tryd.ntmps86
      go_wp2_with (first | (go_at_call 108; refine (Tryd.strconv_Atoi_ok s (by omega) v h _).mono ?_; rintro e w' ⟨rfl, hw⟩) | (go_at_call 88; refine (Tryd.strconv_Itoa v hv.1 hv.2 _ ?_).mono ?_))
      · rcases hw with rfl | ⟨t, rfl⟩
        · exact htab
        · exact var_below (Lib.bytesWorld_below _ _ _) htab
      · rintro e W2 ⟨rfl, k, os, rfl⟩
        have hb1 : Below w.heap.size w w' := by
          rcases hw with rfl | ⟨t, rfl⟩
          · exact Below.refl _ _
          · exact Lib.bytesWorld_below _ _ _
        have hb2 : Below w.heap.size w (Go.Sort.grow (w'.drewN k) os) := Below.trans hb1 (Lib.below_grow w.heap.size w' hb1.size k os)
        have key : ByteArray.toList (itoaB v) = Lib.itoa v := itoa_toList v
        go_wp2
        · rename_i hc
          have hr : readIV s = (0, false) := by
            unfold readIV; rw [h]
            simp only [key]
            rcases hc with hc | hc
            · omega
            · simp only [hc, Bool.or_true, cond_true]
          rw [hr]
          go_ret2
          exact ⟨rfl, hb2⟩
        · rename_i hc
          have hr : readIV s = (v, true) := by
            unfold readIV; rw [h]
            simp only [key, hc.2, decide_eq_false (by omega : ¬ (10 : Int) < ((ByteArray.size s : Nat) : Int)), Bool.or_false, cond_false]
          rw [hr]
          go_ret2
          exact ⟨rfl, hb2⟩
  | range =>
    have hr : readIV s = (0, false) := by unfold readIV; rw [h]
    rw [hr]
    go_enter Tryd.func86, Tryd.ntmps86
    go_wp2_with (go_at_call 108; refine (Tryd.strconv_Atoi_range s hlim h ev1 _ ?_ he1).mono ?_)
    · exact hv1
    rintro e W1 ⟨N, rfl, -, -, hb⟩
    go_wp2
    go_ret2
    exact ⟨rfl, hb⟩
  | _ =>
    have hr : readIV s = (0, false) := by unfold readIV; rw [h]
    rw [hr]
    go_enter Tryd.func86, Tryd.ntmps86
    go_wp2_with (go_at_call 108; refine (Tryd.strconv_Atoi_syntax s hlim ⟨fun n e => (by rw [h] at e; cases e), fun e => (by rw [h] at e; cases e)⟩ ev0 _ ?_ he0).mono ?_)
    · exact hv0
    rintro e W1 ⟨N, rfl, -, -, hb⟩
    go_wp2
    go_ret2
    exact ⟨rfl, hb⟩

def F_impl_readInt (k : Nat) : FArg (.c (.val .str) .e) := fun x K => impl_readInt x.1 fun n b => K [⟨.int .i64, n, true⟩, ⟨.bool, b, true⟩]
theorem s_impl_readInt (k : Nat) : SoundF Tryd.prog glob 86 (ftab (.c (.val .str) .e) (F_impl_readInt k)) := readInt_sound (g := 6) (g0 := 4) (g1 := 5) (e0 := GC.e0) (e1 := GC.e1) (by kernel_rfl) (by kernel_rfl) rfl rfl rfl (fun s hs ev0 ev1 w a b c d e => readInt_walk s hs ev0 ev1 w a b c d e)
def E_impl_readInt (k : Nat) : Tbl := tcons 86 (ftab (.c (.val .str) .e) (F_impl_readInt k)) (E_strings_Split k)
theorem E_impl_readInt_ok (k : Nat) : SoundE Tryd.prog glob (E_impl_readInt k) ∧ NatE (E_impl_readInt k) := tab_cons (s_impl_readInt k) (E_strings_Split_ok k)
/-- impl.readWords -/
def cx_impl_readWords : Cx := { N := 40, G := glob, C := tys, ad := fun d => Nat.beq d 29, wk := false, dp := true }
def sp_impl_readWords_l0 : LSp where
  cv := []
  ts := [(7, .own 19), (21, .val (.sl .str)), (22, .val (.int .i64)), (23, .val (.int .i64))]
  ids := [(19, .row (.int .i64))]
  tx := fun e => match e with | .exit i => bif Nat.beq i 0 then [7] else [] | .ret => [4, 5] | .normal => []
  ix := fun e => match e with | .exit i => bif Nat.beq i 0 then [19] else [] | .ret => [] | .normal => []
def F_impl_readWords_l0 (k : Nat) : LArg sp_impl_readWords_l0 := fun K n x y => impl_readWords_l0 k (fun (y0 : List Int) => K (.exit 0) (mkSt [(7, .own 19 1)] [(19, some (.row (.int .i64) y0))])) (fun (y0 : Bool) => K (.ret) (mkSt [(4, .nil), (5, .val .bool y0)] [])) n x.2.1 x.2.2.1 x.2.2.2.1 y.1
def LO_impl_readWords_l0 (k : Nat) : LTbl := (lcons 6 (ltab sp_impl_readWords_l0 (F_impl_readWords_l0 k) k) lnil)
theorem lk_impl_readWords_l0 (k : Nat) : LoopsOK Tryd.prog glob (E_impl_readInt k) cx_impl_readWords (LO_impl_readWords_l0 k) ((6, (loopB Tryd.f51 6)) :: []) :=
  LoopsOK.cons (LoopsOK.nil) (E_impl_readInt_ok k).2 (F := F_impl_readWords_l0 k) k [] (by kernel_rfl) (by kernel_rfl) (fun K x y => rfl) (fun n x y K => by kernel_rfl)
def F_impl_readWords (k : Nat) : FArg (.c (.val .str) (.c (.val .str) .e)) := fun x K => impl_readWords k x.1 x.2.1 (fun (r0 : List Int) (r1 : Bool) => K [⟨(.sl (.int .i64)), r0, true⟩, ⟨.bool, r1, true⟩])
theorem s_impl_readWords (k : Nat) : SoundF Tryd.prog glob 51 (ftab (.c (.val .str) (.c (.val .str) .e)) (F_impl_readWords k)) :=
  fun_ok (cx := cx_impl_readWords) (by kernel_rfl) ⟨types, (E_impl_readInt_ok k).1, (E_impl_readInt_ok k).2, mixed, rfl⟩ Tryd.func51 rfl (lk_impl_readWords_l0 k) [0] (by kernel_rfl) (fun x K => by kernel_rfl)
def E_impl_readWords (k : Nat) : Tbl := tcons 51 (ftab (.c (.val .str) (.c (.val .str) .e)) (F_impl_readWords k)) (E_impl_readInt k)
theorem E_impl_readWords_ok (k : Nat) : SoundE Tryd.prog glob (E_impl_readWords k) ∧ NatE (E_impl_readWords k) := tab_cons (s_impl_readWords k) (E_impl_readInt_ok k)
/-- impl.inRange -/
def cx_impl_inRange : Cx := { N := 15, G := glob, C := tys, ad := fun d => false, wk := false, dp := true }
def F_impl_inRange (k : Nat) : FArg (.c (.val (.int .i64)) (.c (.val (.int .i64)) (.c (.val (.int .i64)) .e))) := fun x K => impl_inRange x.1 x.2.1 x.2.2.1 (fun (r0 : Bool) => K [⟨.bool, r0, true⟩])
theorem s_impl_inRange (k : Nat) : SoundF Tryd.prog glob 52 (ftab (.c (.val (.int .i64)) (.c (.val (.int .i64)) (.c (.val (.int .i64)) .e))) (F_impl_inRange k)) :=
  fun_ok (cx := cx_impl_inRange) (by kernel_rfl) ⟨types, (E_impl_readWords_ok k).1, (E_impl_readWords_ok k).2, mixed, rfl⟩ Tryd.func52 rfl (LoopsOK.nil) [] (by kernel_rfl) (fun x K => by kernel_rfl)
def E_impl_inRange (k : Nat) : Tbl := tcons 52 (ftab (.c (.val (.int .i64)) (.c (.val (.int .i64)) (.c (.val (.int .i64)) .e))) (F_impl_inRange k)) (E_impl_readWords k)
theorem E_impl_inRange_ok (k : Nat) : SoundE Tryd.prog glob (E_impl_inRange k) ∧ NatE (E_impl_inRange k) := tab_cons (s_impl_inRange k) (E_impl_readWords_ok k)
/-- impl.isIndex -/
def cx_impl_isIndex : Cx := { N := 9, G := glob, C := tys, ad := fun d => Nat.beq d 8, wk := false, dp := true }
def F_impl_isIndex (k : Nat) : FArg (.c (.val (.int .i64)) (.c (.val (.int .i64)) .e)) := fun x K => impl_isIndex x.1 x.2.1 (fun (r0 : Bool) => K [⟨.bool, r0, true⟩])
theorem s_impl_isIndex (k : Nat) : SoundF Tryd.prog glob 57 (ftab (.c (.val (.int .i64)) (.c (.val (.int .i64)) .e)) (F_impl_isIndex k)) :=
  fun_ok (cx := cx_impl_isIndex) (by kernel_rfl) ⟨types, (E_impl_inRange_ok k).1, (E_impl_inRange_ok k).2, mixed, rfl⟩ Tryd.func57 rfl (LoopsOK.nil) [] (by kernel_rfl) (fun x K => by kernel_rfl)
def E_impl_isIndex (k : Nat) : Tbl := tcons 57 (ftab (.c (.val (.int .i64)) (.c (.val (.int .i64)) .e)) (F_impl_isIndex k)) (E_impl_inRange k)
theorem E_impl_isIndex_ok (k : Nat) : SoundE Tryd.prog glob (E_impl_isIndex k) ∧ NatE (E_impl_isIndex k) := tab_cons (s_impl_isIndex k) (E_impl_inRange_ok k)
/-- impl.increasing -/
def cx_impl_increasing : Cx := { N := 20, G := glob, C := tys, ad := fun d => false, wk := false, dp := true }
def sp_impl_increasing_l0 : LSp where
  cv := []
  ts := [(0, .val (.sl (.int .i64))), (3, .val (.int .i64))]
  ids := []
  tx := fun e => match e with | .exit i => bif Nat.beq i 0 then [] else [] | .ret => [2] | .normal => []
  ix := fun e => match e with | .exit i => bif Nat.beq i 0 then [] else [] | .ret => [] | .normal => []
def F_impl_increasing_l0 (k : Nat) : LArg sp_impl_increasing_l0 := fun K n x y => impl_increasing_l0 k (K (.exit 0) (mkSt [] [])) (fun (y0 : Bool) => K (.ret) (mkSt [(2, .val .bool y0)] [])) n x.1 x.2.1
def LO_impl_increasing_l0 (k : Nat) : LTbl := (lcons 2 (ltab sp_impl_increasing_l0 (F_impl_increasing_l0 k) k) lnil)
theorem lk_impl_increasing_l0 (k : Nat) : LoopsOK Tryd.prog glob (E_impl_isIndex k) cx_impl_increasing (LO_impl_increasing_l0 k) ((2, (loopB Tryd.f58 2)) :: []) :=
  LoopsOK.cons (LoopsOK.nil) (E_impl_isIndex_ok k).2 (F := F_impl_increasing_l0 k) k [] (by kernel_rfl) (by kernel_rfl) (fun K x y => rfl) (fun n x y K => by kernel_rfl)
def F_impl_increasing (k : Nat) : FArg (.c (.val (.sl (.int .i64))) .e) := fun x K => impl_increasing k x.1 (fun (r0 : Bool) => K [⟨.bool, r0, true⟩])
theorem s_impl_increasing (k : Nat) : SoundF Tryd.prog glob 58 (ftab (.c (.val (.sl (.int .i64))) .e) (F_impl_increasing k)) :=
  fun_ok (cx := cx_impl_increasing) (by kernel_rfl) ⟨types, (E_impl_isIndex_ok k).1, (E_impl_isIndex_ok k).2, mixed, rfl⟩ Tryd.func58 rfl (lk_impl_increasing_l0 k) [0] (by kernel_rfl) (fun x K => by kernel_rfl)
def E_impl_increasing (k : Nat) : Tbl := tcons 58 (ftab (.c (.val (.sl (.int .i64))) .e) (F_impl_increasing k)) (E_impl_isIndex k)
theorem E_impl_increasing_ok (k : Nat) : SoundE Tryd.prog glob (E_impl_increasing k) ∧ NatE (E_impl_increasing k) := tab_cons (s_impl_increasing k) (E_impl_isIndex_ok k)
/-- impl.hexOf -/
def cx_impl_hexOf : Cx := { N := 14, G := glob, C := tys, ad := fun d => false, wk := false, dp := true }
def F_impl_hexOf (k : Nat) : FArg (.c (.val (.st (.pair (.int .i64) (.pair (.int .i64) (.pair (.sl (.int .i64)) (.pair (.sl (.int .i64)) (.sl (.int .i64)))))))) (.c (.val (.int .i64)) .e)) := fun x K => impl_hexOf x.1 x.2.1 (fun (r0 : Int × Int) => K [⟨(.st (.pair (.int .i64) (.int .i64))), r0, true⟩])
theorem s_impl_hexOf (k : Nat) : SoundF Tryd.prog glob 70 (ftab (.c (.val (.st (.pair (.int .i64) (.pair (.int .i64) (.pair (.sl (.int .i64)) (.pair (.sl (.int .i64)) (.sl (.int .i64)))))))) (.c (.val (.int .i64)) .e)) (F_impl_hexOf k)) :=
  fun_ok (cx := cx_impl_hexOf) (by kernel_rfl) ⟨types, (E_impl_increasing_ok k).1, (E_impl_increasing_ok k).2, mixed, rfl⟩ Tryd.func70 rfl (LoopsOK.nil) [] (by kernel_rfl) (fun x K => by kernel_rfl)
def E_impl_hexOf (k : Nat) : Tbl := tcons 70 (ftab (.c (.val (.st (.pair (.int .i64) (.pair (.int .i64) (.pair (.sl (.int .i64)) (.pair (.sl (.int .i64)) (.sl (.int .i64)))))))) (.c (.val (.int .i64)) .e)) (F_impl_hexOf k)) (E_impl_increasing k)
theorem E_impl_hexOf_ok (k : Nat) : SoundE Tryd.prog glob (E_impl_hexOf k) ∧ NatE (E_impl_hexOf k) := tab_cons (s_impl_hexOf k) (E_impl_increasing_ok k)
/-- impl.stepBy -/
def cx_impl_stepBy : Cx := { N := 26, G := glob, C := tys, ad := fun d => false, wk := false, dp := true }
def F_impl_stepBy (k : Nat) : FArg (.c (.val (.st (.pair (.int .i64) (.int .i64)))) (.c (.val (.int .i64)) (.c (.val (.int .i64)) .e))) := fun x K => impl_stepBy x.1 x.2.1 x.2.2.1 (fun (r0 : Int × Int) => K [⟨(.st (.pair (.int .i64) (.int .i64))), r0, true⟩])
theorem s_impl_stepBy (k : Nat) : SoundF Tryd.prog glob 93 (ftab (.c (.val (.st (.pair (.int .i64) (.int .i64)))) (.c (.val (.int .i64)) (.c (.val (.int .i64)) .e))) (F_impl_stepBy k)) :=
  fun_ok (cx := cx_impl_stepBy) (by kernel_rfl) ⟨types, (E_impl_hexOf_ok k).1, (E_impl_hexOf_ok k).2, mixed, rfl⟩ Tryd.func93 rfl (LoopsOK.nil) [] (by kernel_rfl) (fun x K => by kernel_rfl)
def E_impl_stepBy (k : Nat) : Tbl := tcons 93 (ftab (.c (.val (.st (.pair (.int .i64) (.int .i64)))) (.c (.val (.int .i64)) (.c (.val (.int .i64)) .e))) (F_impl_stepBy k)) (E_impl_hexOf k)
theorem E_impl_stepBy_ok (k : Nat) : SoundE Tryd.prog glob (E_impl_stepBy k) ∧ NatE (E_impl_stepBy k) := tab_cons (s_impl_stepBy k) (E_impl_hexOf_ok k)
/-- impl.indexOf -/
def cx_impl_indexOf : Cx := { N := 27, G := glob, C := tys, ad := fun d => Nat.beq d 9 || Nat.beq d 16, wk := false, dp := true }
def F_impl_indexOf (k : Nat) : FArg (.c (.val (.st (.pair (.int .i64) (.pair (.int .i64) (.pair (.sl (.int .i64)) (.pair (.sl (.int .i64)) (.sl (.int .i64)))))))) (.c (.val (.st (.pair (.int .i64) (.int .i64)))) .e)) := fun x K => impl_indexOf x.1 x.2.1 (fun (r0 : Int) => K [⟨(.int .i64), r0, true⟩])
theorem s_impl_indexOf (k : Nat) : SoundF Tryd.prog glob 67 (ftab (.c (.val (.st (.pair (.int .i64) (.pair (.int .i64) (.pair (.sl (.int .i64)) (.pair (.sl (.int .i64)) (.sl (.int .i64)))))))) (.c (.val (.st (.pair (.int .i64) (.int .i64)))) .e)) (F_impl_indexOf k)) :=
  fun_ok (cx := cx_impl_indexOf) (by kernel_rfl) ⟨types, (E_impl_stepBy_ok k).1, (E_impl_stepBy_ok k).2, mixed, rfl⟩ Tryd.func67 rfl (LoopsOK.nil) [] (by kernel_rfl) (fun x K => by kernel_rfl)
def E_impl_indexOf (k : Nat) : Tbl := tcons 67 (ftab (.c (.val (.st (.pair (.int .i64) (.pair (.int .i64) (.pair (.sl (.int .i64)) (.pair (.sl (.int .i64)) (.sl (.int .i64)))))))) (.c (.val (.st (.pair (.int .i64) (.int .i64)))) .e)) (F_impl_indexOf k)) (E_impl_stepBy k)
theorem E_impl_indexOf_ok (k : Nat) : SoundE Tryd.prog glob (E_impl_indexOf k) ∧ NatE (E_impl_indexOf k) := tab_cons (s_impl_indexOf k) (E_impl_stepBy_ok k)
/-- impl.nextTo -/
def cx_impl_nextTo : Cx := { N := 14, G := glob, C := tys, ad := fun d => Nat.beq d 13, wk := false, dp := true }
def F_impl_nextTo (k : Nat) : FArg (.c (.val (.st (.pair (.int .i64) (.pair (.int .i64) (.pair (.sl (.int .i64)) (.pair (.sl (.int .i64)) (.sl (.int .i64)))))))) (.c (.val (.int .i64)) (.c (.val (.int .i64)) .e))) := fun x K => impl_nextTo x.1 x.2.1 x.2.2.1 (fun (r0 : Int) => K [⟨(.int .i64), r0, true⟩])
theorem s_impl_nextTo (k : Nat) : SoundF Tryd.prog glob 62 (ftab (.c (.val (.st (.pair (.int .i64) (.pair (.int .i64) (.pair (.sl (.int .i64)) (.pair (.sl (.int .i64)) (.sl (.int .i64)))))))) (.c (.val (.int .i64)) (.c (.val (.int .i64)) .e))) (F_impl_nextTo k)) :=
  fun_ok (cx := cx_impl_nextTo) (by kernel_rfl) ⟨types, (E_impl_indexOf_ok k).1, (E_impl_indexOf_ok k).2, mixed, rfl⟩ Tryd.func62 rfl (LoopsOK.nil) [] (by kernel_rfl) (fun x K => by kernel_rfl)
def E_impl_nextTo (k : Nat) : Tbl := tcons 62 (ftab (.c (.val (.st (.pair (.int .i64) (.pair (.int .i64) (.pair (.sl (.int .i64)) (.pair (.sl (.int .i64)) (.sl (.int .i64)))))))) (.c (.val (.int .i64)) (.c (.val (.int .i64)) .e))) (F_impl_nextTo k)) (E_impl_indexOf k)
theorem E_impl_nextTo_ok (k : Nat) : SoundE Tryd.prog glob (E_impl_nextTo k) ∧ NatE (E_impl_nextTo k) := tab_cons (s_impl_nextTo k) (E_impl_indexOf_ok k)
/-- impl.isEdge -/
def cx_impl_isEdge : Cx := { N := 23, G := glob, C := tys, ad := fun d => Nat.beq d 13 || Nat.beq d 20, wk := false, dp := true }
def F_impl_isEdge (k : Nat) : FArg (.c (.val (.st (.pair (.int .i64) (.pair (.int .i64) (.pair (.sl (.int .i64)) (.pair (.sl (.int .i64)) (.sl (.int .i64)))))))) (.c (.val (.int .i64)) .e)) := fun x K => impl_isEdge x.1 x.2.1 (fun (r0 : Bool) => K [⟨.bool, r0, true⟩])
theorem s_impl_isEdge (k : Nat) : SoundF Tryd.prog glob 59 (ftab (.c (.val (.st (.pair (.int .i64) (.pair (.int .i64) (.pair (.sl (.int .i64)) (.pair (.sl (.int .i64)) (.sl (.int .i64)))))))) (.c (.val (.int .i64)) .e)) (F_impl_isEdge k)) :=
  fun_ok (cx := cx_impl_isEdge) (by kernel_rfl) ⟨types, (E_impl_nextTo_ok k).1, (E_impl_nextTo_ok k).2, mixed, rfl⟩ Tryd.func59 rfl (LoopsOK.nil) [] (by kernel_rfl) (fun x K => by kernel_rfl)
def E_impl_isEdge (k : Nat) : Tbl := tcons 59 (ftab (.c (.val (.st (.pair (.int .i64) (.pair (.int .i64) (.pair (.sl (.int .i64)) (.pair (.sl (.int .i64)) (.sl (.int .i64)))))))) (.c (.val (.int .i64)) .e)) (F_impl_isEdge k)) (E_impl_nextTo k)
theorem E_impl_isEdge_ok (k : Nat) : SoundE Tryd.prog glob (E_impl_isEdge k) ∧ NatE (E_impl_isEdge k) := tab_cons (s_impl_isEdge k) (E_impl_nextTo_ok k)
/-- impl.IsMap -/
def cx_impl_IsMap : Cx := { N := 66, G := glob, C := tys, ad := fun d => Nat.beq d 11 || Nat.beq d 16 || Nat.beq d 38 || Nat.beq d 52 || Nat.beq d 62, wk := false }
def sp_impl_IsMap_l0 : LSp where
  cv := []
  ts := [(1, .ptr 1), (31, .val (.sl (.int .i64))), (32, .val (.int .i64)), (33, .val (.int .i64))]
  ids := [(1, .box (.st (.pair (.int .i64) (.pair (.int .i64) (.pair (.sl (.int .i64)) (.pair (.sl (.int .i64)) (.sl (.int .i64))))))) (.val (.st (.pair (.int .i64) (.pair (.int .i64) (.pair (.sl (.int .i64)) (.pair (.sl (.int .i64)) (.sl (.int .i64)))))))))]
  tx := fun e => match e with | .exit i => bif Nat.beq i 0 then [1] else [] | .ret => [2] | .normal => []
  ix := fun e => match e with | .exit i => bif Nat.beq i 0 then [1] else [] | .ret => [] | .normal => []
def F_impl_IsMap_l0 (k : Nat) : LArg sp_impl_IsMap_l0 := fun K n x y => impl_IsMap_l0 k (fun (y0 : Int × Int × (List Int) × (List Int) × List Int) => K (.exit 0) (mkSt [(1, .ptr 1 1 [])] [(1, some (.box (.st (.pair (.int .i64) (.pair (.int .i64) (.pair (.sl (.int .i64)) (.pair (.sl (.int .i64)) (.sl (.int .i64))))))) (.val (.st (.pair (.int .i64) (.pair (.int .i64) (.pair (.sl (.int .i64)) (.pair (.sl (.int .i64)) (.sl (.int .i64))))))) y0)))])) (fun (y0 : Bool) => K (.ret) (mkSt [(2, .val .bool y0)] [])) n x.2.1 x.2.2.1 x.2.2.2.1 y.1
def LO_impl_IsMap_l0 (k : Nat) : LTbl := (lcons 4 (ltab sp_impl_IsMap_l0 (F_impl_IsMap_l0 k) k) lnil)
theorem lk_impl_IsMap_l0 (k : Nat) : LoopsOK Tryd.prog glob (E_impl_isEdge k) cx_impl_IsMap (LO_impl_IsMap_l0 k) ((4, (loopB Tryd.f23 4)) :: []) :=
  LoopsOK.cons (LoopsOK.nil) (E_impl_isEdge_ok k).2 (F := F_impl_IsMap_l0 k) k [] (by kernel_rfl) (by kernel_rfl) (fun K x y => rfl) (fun n x y K => by kernel_rfl)
def sp_impl_IsMap_l1 : LSp where
  cv := []
  ts := [(1, .ptr 1), (45, .own 45), (46, .val (.int .i64)), (47, .val (.int .i64)), (54, .val (.sl (.int .i64))), (55, .val (.int .i64)), (56, .val (.int .i64))]
  ids := [(1, .box (.st (.pair (.int .i64) (.pair (.int .i64) (.pair (.sl (.int .i64)) (.pair (.sl (.int .i64)) (.sl (.int .i64))))))) (.val (.st (.pair (.int .i64) (.pair (.int .i64) (.pair (.sl (.int .i64)) (.pair (.sl (.int .i64)) (.sl (.int .i64))))))))), (45, .row (.sl (.int .i64)))]
  tx := fun e => match e with | .exit i => bif Nat.beq i 4 then [1, 45, 46, 47] else [] | .ret => [2] | .normal => []
  ix := fun e => match e with | .exit i => bif Nat.beq i 4 then [1, 45] else [] | .ret => [] | .normal => []
def F_impl_IsMap_l1 (k : Nat) : LArg sp_impl_IsMap_l1 := fun K n x y => impl_IsMap_l1 k (fun (y0 : Int) (y1 : Int) (y2 : Int × Int × (List Int) × (List Int) × List Int) (y3 : List (List Int)) => K (.exit 4) (mkSt [(1, .ptr 1 1 []), (45, .own 45 1), (46, .val (.int .i64) y0), (47, .val (.int .i64) y1)] [(1, some (.box (.st (.pair (.int .i64) (.pair (.int .i64) (.pair (.sl (.int .i64)) (.pair (.sl (.int .i64)) (.sl (.int .i64))))))) (.val (.st (.pair (.int .i64) (.pair (.int .i64) (.pair (.sl (.int .i64)) (.pair (.sl (.int .i64)) (.sl (.int .i64))))))) y2))), (45, some (.row (.sl (.int .i64)) y3))])) (fun (y0 : Bool) => K (.ret) (mkSt [(2, .val .bool y0)] [])) n x.2.2.1 x.2.2.2.1 x.2.2.2.2.1 x.2.2.2.2.2.1 x.2.2.2.2.2.2.1 y.1 y.2.1
def LO_impl_IsMap_l1 (k : Nat) : LTbl := (lcons 15 (ltab sp_impl_IsMap_l1 (F_impl_IsMap_l1 k) k) (LO_impl_IsMap_l0 k))
theorem lk_impl_IsMap_l1 (k : Nat) : LoopsOK Tryd.prog glob (E_impl_isEdge k) cx_impl_IsMap (LO_impl_IsMap_l1 k) ((15, (loopB Tryd.f23 15)) :: ((4, (loopB Tryd.f23 4)) :: [])) :=
  LoopsOK.cons (lk_impl_IsMap_l0 k) (E_impl_isEdge_ok k).2 (F := F_impl_IsMap_l1 k) k [] (by kernel_rfl) (by kernel_rfl) (fun K x y => rfl) (fun n x y K => by kernel_rfl)
def sp_impl_IsMap_l2 : LSp where
  cv := []
  ts := [(1, .ptr 1), (45, .own 45), (46, .val (.int .i64)), (47, .val (.int .i64))]
  ids := [(1, .box (.st (.pair (.int .i64) (.pair (.int .i64) (.pair (.sl (.int .i64)) (.pair (.sl (.int .i64)) (.sl (.int .i64))))))) (.val (.st (.pair (.int .i64) (.pair (.int .i64) (.pair (.sl (.int .i64)) (.pair (.sl (.int .i64)) (.sl (.int .i64))))))))), (45, .row (.sl (.int .i64)))]
  tx := fun e => match e with | .exit i => bif Nat.beq i 2 then [] else [] | .ret => [2] | .normal => []
  ix := fun e => match e with | .exit i => bif Nat.beq i 2 then [] else [] | .ret => [] | .normal => []
def F_impl_IsMap_l2 (k : Nat) : LArg sp_impl_IsMap_l2 := fun K n x y => impl_IsMap_l2 k (K (.exit 2) (mkSt [] [])) (fun (y0 : Bool) => K (.ret) (mkSt [(2, .val .bool y0)] [])) n x.2.2.1 x.2.2.2.1 y.1 y.2.1
def LO_impl_IsMap_l2 (k : Nat) : LTbl := (lcons 10 (ltab sp_impl_IsMap_l2 (F_impl_IsMap_l2 k) k) (LO_impl_IsMap_l1 k))
theorem lk_impl_IsMap_l2 (k : Nat) : LoopsOK Tryd.prog glob (E_impl_isEdge k) cx_impl_IsMap (LO_impl_IsMap_l2 k) ((10, (loopB Tryd.f23 10)) :: ((15, (loopB Tryd.f23 15)) :: ((4, (loopB Tryd.f23 4)) :: []))) :=
  LoopsOK.cons (lk_impl_IsMap_l1 k) (E_impl_isEdge_ok k).2 (F := F_impl_IsMap_l2 k) k [0] (by kernel_rfl) (by kernel_rfl) (fun K x y => rfl) (fun n x y K => by kernel_rfl)
def F_impl_IsMap (k : Nat) : FArg (.c (.val (.st (.pair (.int .i64) (.pair (.int .i64) (.pair (.sl (.int .i64)) (.pair (.sl (.int .i64)) (.sl (.int .i64)))))))) .e) := fun x K => impl_IsMap k x.1 (fun (r0 : Bool) => K [⟨.bool, r0, true⟩])
theorem s_impl_IsMap (k : Nat) : SoundF Tryd.prog glob 23 (ftab (.c (.val (.st (.pair (.int .i64) (.pair (.int .i64) (.pair (.sl (.int .i64)) (.pair (.sl (.int .i64)) (.sl (.int .i64)))))))) .e) (F_impl_IsMap k)) :=
  fun_ok (cx := cx_impl_IsMap) (by kernel_rfl) ⟨types, (E_impl_isEdge_ok k).1, (E_impl_isEdge_ok k).2, mixed, rfl⟩ Tryd.func23 rfl (lk_impl_IsMap_l2 k) [2, 0] (by kernel_rfl) (fun x K => by kernel_rfl)
def E_impl_IsMap (k : Nat) : Tbl := tcons 23 (ftab (.c (.val (.st (.pair (.int .i64) (.pair (.int .i64) (.pair (.sl (.int .i64)) (.pair (.sl (.int .i64)) (.sl (.int .i64)))))))) .e) (F_impl_IsMap k)) (E_impl_isEdge k)
theorem E_impl_IsMap_ok (k : Nat) : SoundE Tryd.prog glob (E_impl_IsMap k) ∧ NatE (E_impl_IsMap k) := tab_cons (s_impl_IsMap k) (E_impl_isEdge_ok k)
/-- strconv.Itoa -/
def F_strconv_Itoa (k : Nat) : FArg (.c (.val (.int .i64)) .e) := fun x K => strconv_Itoa x.1 fun r => K [⟨.str, r, true⟩]
theorem s_strconv_Itoa (k : Nat) : SoundF Tryd.prog glob 88 (ftab (.c (.val (.int .i64)) .e) (F_strconv_Itoa k)) := itoa_sound (g := 6) (by kernel_rfl) (by kernel_rfl) rfl (fun n h0 h1 w ht => Tryd.strconv_Itoa n h0 h1 w ht)
def E_strconv_Itoa (k : Nat) : Tbl := tcons 88 (ftab (.c (.val (.int .i64)) .e) (F_strconv_Itoa k)) (E_impl_IsMap k)
theorem E_strconv_Itoa_ok (k : Nat) : SoundE Tryd.prog glob (E_strconv_Itoa k) ∧ NatE (E_strconv_Itoa k) := tab_cons (s_strconv_Itoa k) (E_impl_IsMap_ok k)
/-- strings.Join -/
def F_strings_Join (k : Nat) : FArg (.c (.val (.sl .str)) (.c (.val .str) .e)) := fun x K => strings_Join x.1 x.2.1 fun r => K [⟨.str, r, true⟩]
theorem s_strings_Join (k : Nat) : SoundF Tryd.prog glob 109 (ftab (.c (.val (.sl .str)) (.c (.val .str) .e)) (F_strings_Join k)) := join_sound (by kernel_rfl) (fun a c sep w => Tryd.strings_Join_none a c sep w) (fun bk o c xs sep w h1 h2 h3 h4 h5 => Tryd.strings_Join bk o c xs sep w h1 h2 h3 h4 h5)
def E_strings_Join (k : Nat) : Tbl := tcons 109 (ftab (.c (.val (.sl .str)) (.c (.val .str) .e)) (F_strings_Join k)) (E_strconv_Itoa k)
theorem E_strings_Join_ok (k : Nat) : SoundE Tryd.prog glob (E_strings_Join k) ∧ NatE (E_strings_Join k) := tab_cons (s_strings_Join k) (E_strconv_Itoa_ok k)
/-- impl.wordsText -/
def cx_impl_wordsText : Cx := { N := 24, G := glob, C := tys, ad := fun d => Nat.beq d 18 || Nat.beq d 23, wk := false, dp := true }
def sp_impl_wordsText_l0 : LSp where
  cv := []
  ts := [(5, .own 9), (10, .val (.sl (.int .i64))), (11, .val (.int .i64)), (12, .val (.int .i64))]
  ids := [(9, .row .str)]
  tx := fun e => match e with | .exit i => bif Nat.beq i 0 then [5] else [] | .ret => [] | .normal => []
  ix := fun e => match e with | .exit i => bif Nat.beq i 0 then [9] else [] | .ret => [] | .normal => []
def F_impl_wordsText_l0 (k : Nat) : LArg sp_impl_wordsText_l0 := fun K n x y => impl_wordsText_l0 k (fun (y0 : List ByteArray) => K (.exit 0) (mkSt [(5, .own 9 1)] [(9, some (.row .str y0))])) n x.2.1 x.2.2.1 x.2.2.2.1 y.1
def LO_impl_wordsText_l0 (k : Nat) : LTbl := (lcons 3 (ltab sp_impl_wordsText_l0 (F_impl_wordsText_l0 k) k) lnil)
theorem lk_impl_wordsText_l0 (k : Nat) : LoopsOK Tryd.prog glob (E_strings_Join k) cx_impl_wordsText (LO_impl_wordsText_l0 k) ((3, (loopB Tryd.f87 3)) :: []) :=
  LoopsOK.cons (LoopsOK.nil) (E_strings_Join_ok k).2 (F := F_impl_wordsText_l0 k) k [] (by kernel_rfl) (by kernel_rfl) (fun K x y => rfl) (fun n x y K => by kernel_rfl)
def F_impl_wordsText (k : Nat) : FArg (.c (.val .str) (.c (.val (.sl (.int .i64))) .e)) := fun x K => impl_wordsText k x.1 x.2.1 (fun (r0 : ByteArray) => K [⟨.str, r0, true⟩])
theorem s_impl_wordsText (k : Nat) : SoundF Tryd.prog glob 87 (ftab (.c (.val .str) (.c (.val (.sl (.int .i64))) .e)) (F_impl_wordsText k)) :=
  fun_ok (cx := cx_impl_wordsText) (by kernel_rfl) ⟨types, (E_strings_Join_ok k).1, (E_strings_Join_ok k).2, mixed, rfl⟩ Tryd.func87 rfl (lk_impl_wordsText_l0 k) [0] (by kernel_rfl) (fun x K => by kernel_rfl)
def E_impl_wordsText (k : Nat) : Tbl := tcons 87 (ftab (.c (.val .str) (.c (.val (.sl (.int .i64))) .e)) (F_impl_wordsText k)) (E_strings_Join k)
theorem E_impl_wordsText_ok (k : Nat) : SoundE Tryd.prog glob (E_impl_wordsText k) ∧ NatE (E_impl_wordsText k) := tab_cons (s_impl_wordsText k) (E_strings_Join_ok k)
/-- impl.mapText -/
def cx_impl_mapText : Cx := { N := 47, G := glob, C := tys, ad := fun d => Nat.beq d 11 || Nat.beq d 23, wk := false, dp := true }
def sp_impl_mapText_l0 : LSp where
  cv := []
  ts := [(1, .ptr 1), (3, .val .str), (14, .val (.sl (.int .i64))), (15, .val (.int .i64)), (16, .val (.int .i64))]
  ids := [(1, .box (.st (.pair (.int .i64) (.pair (.int .i64) (.pair (.sl (.int .i64)) (.pair (.sl (.int .i64)) (.sl (.int .i64))))))) (.val (.st (.pair (.int .i64) (.pair (.int .i64) (.pair (.sl (.int .i64)) (.pair (.sl (.int .i64)) (.sl (.int .i64)))))))))]
  tx := fun e => match e with | .exit i => bif Nat.beq i 0 then [1, 3] else [] | .ret => [] | .normal => []
  ix := fun e => match e with | .exit i => bif Nat.beq i 0 then [1] else [] | .ret => [] | .normal => []
def F_impl_mapText_l0 (k : Nat) : LArg sp_impl_mapText_l0 := fun K n x y => impl_mapText_l0 k (fun (y0 : ByteArray) (y1 : Int × Int × (List Int) × (List Int) × List Int) => K (.exit 0) (mkSt [(1, .ptr 1 1 []), (3, .val .str y0)] [(1, some (.box (.st (.pair (.int .i64) (.pair (.int .i64) (.pair (.sl (.int .i64)) (.pair (.sl (.int .i64)) (.sl (.int .i64))))))) (.val (.st (.pair (.int .i64) (.pair (.int .i64) (.pair (.sl (.int .i64)) (.pair (.sl (.int .i64)) (.sl (.int .i64))))))) y1)))])) n x.2.1 x.2.2.1 x.2.2.2.1 x.2.2.2.2.1 y.1
def LO_impl_mapText_l0 (k : Nat) : LTbl := (lcons 3 (ltab sp_impl_mapText_l0 (F_impl_mapText_l0 k) k) lnil)
theorem lk_impl_mapText_l0 (k : Nat) : LoopsOK Tryd.prog glob (E_impl_wordsText k) cx_impl_mapText (LO_impl_mapText_l0 k) ((3, (loopB Tryd.f53 3)) :: []) :=
  LoopsOK.cons (LoopsOK.nil) (E_impl_wordsText_ok k).2 (F := F_impl_mapText_l0 k) k [] (by kernel_rfl) (by kernel_rfl) (fun K x y => rfl) (fun n x y K => by kernel_rfl)
def F_impl_mapText (k : Nat) : FArg (.c (.val (.st (.pair (.int .i64) (.pair (.int .i64) (.pair (.sl (.int .i64)) (.pair (.sl (.int .i64)) (.sl (.int .i64)))))))) .e) := fun x K => impl_mapText k x.1 (fun (r0 : ByteArray) => K [⟨.str, r0, true⟩])
theorem s_impl_mapText (k : Nat) : SoundF Tryd.prog glob 53 (ftab (.c (.val (.st (.pair (.int .i64) (.pair (.int .i64) (.pair (.sl (.int .i64)) (.pair (.sl (.int .i64)) (.sl (.int .i64)))))))) .e) (F_impl_mapText k)) :=
  fun_ok (cx := cx_impl_mapText) (by kernel_rfl) ⟨types, (E_impl_wordsText_ok k).1, (E_impl_wordsText_ok k).2, mixed, rfl⟩ Tryd.func53 rfl (lk_impl_mapText_l0 k) [0] (by kernel_rfl) (fun x K => by kernel_rfl)
def E_impl_mapText (k : Nat) : Tbl := tcons 53 (ftab (.c (.val (.st (.pair (.int .i64) (.pair (.int .i64) (.pair (.sl (.int .i64)) (.pair (.sl (.int .i64)) (.sl (.int .i64)))))))) .e) (F_impl_mapText k)) (E_impl_wordsText k)
theorem E_impl_mapText_ok (k : Nat) : SoundE Tryd.prog glob (E_impl_mapText k) ∧ NatE (E_impl_mapText k) := tab_cons (s_impl_mapText k) (E_impl_wordsText_ok k)
/-- impl.ParseMap -/
def cx_impl_ParseMap : Cx := { N := 132, G := glob, C := tys, ad := fun d => Nat.beq d 21 || Nat.beq d 35 || Nat.beq d 42 || Nat.beq d 96 || Nat.beq d 106 || Nat.beq d 121 || Nat.beq d 126, wk := false, dp := true }
def sp_impl_ParseMap_l0 : LSp where
  cv := []
  ts := [(0, .val .str), (2, .ptr 2), (4, .val (.sl .str)), (7, .ptr 7), (9, .val .str), (10, .val (.int .i64)), (66, .val (.sl .str)), (67, .val (.int .i64)), (68, .val (.int .i64))]
  ids := [(2, .box (.st (.pair (.int .i64) (.pair (.int .i64) (.pair (.sl (.int .i64)) (.pair (.sl (.int .i64)) (.sl (.int .i64))))))) (.agg (.c (.val (.int .i64)) (.c (.val (.int .i64)) (.c (.own 2200042) (.c (.own 2200043) (.c (.own 2200044) .e))))))), (7, .box (.st (.pair (.int .i64) (.pair (.int .i64) (.pair (.sl (.int .i64)) (.pair (.sl (.int .i64)) (.sl (.int .i64))))))) (.agg (.c (.val (.int .i64)) (.c (.val (.int .i64)) (.c (.own 2200142) (.c (.own 2200143) (.c (.own 2200144) .e))))))), (2200042, .row (.int .i64)), (2200043, .row (.int .i64)), (2200044, .row (.int .i64)), (2200142, .row (.int .i64)), (2200143, .row (.int .i64)), (2200144, .row (.int .i64))]
  tx := fun e => match e with | .exit i => bif Nat.beq i 2 then [0, 2, 4, 7, 66, 67, 68] else [] | .ret => [] | .normal => []
  ix := fun e => match e with | .exit i => bif Nat.beq i 2 then [2, 7, 2200042, 2200043, 2200044, 2200142, 2200143, 2200144] else [] | .ret => [] | .normal => []
def F_impl_ParseMap_l0 (k : Nat) : LArg sp_impl_ParseMap_l0 := fun K n x y => impl_ParseMap_l0 k (fun (y0 : ByteArray) (y1 : List ByteArray) (y2 : List ByteArray) (y3 : Int) (y4 : Int) (y5 : Int) (y6 : Int) (y7 : Int) (y8 : Int) (y9 : List Int) (y10 : List Int) (y11 : List Int) (y12 : List Int) (y13 : List Int) (y14 : List Int) => K (.exit 2) (mkSt [(0, .val .str y0), (2, .ptr 2 1 []), (4, .val (.sl .str) y1), (7, .ptr 7 1 []), (66, .val (.sl .str) y2), (67, .val (.int .i64) y3), (68, .val (.int .i64) y4)] [(2, some (.box (.st (.pair (.int .i64) (.pair (.int .i64) (.pair (.sl (.int .i64)) (.pair (.sl (.int .i64)) (.sl (.int .i64))))))) (.agg [.val (.int .i64) y5, .val (.int .i64) y6, .own 2200042 1, .own 2200043 1, .own 2200044 1]))), (7, some (.box (.st (.pair (.int .i64) (.pair (.int .i64) (.pair (.sl (.int .i64)) (.pair (.sl (.int .i64)) (.sl (.int .i64))))))) (.agg [.val (.int .i64) y7, .val (.int .i64) y8, .own 2200142 1, .own 2200143 1, .own 2200144 1]))), (2200042, some (.row (.int .i64) y9)), (2200043, some (.row (.int .i64) y10)), (2200044, some (.row (.int .i64) y11)), (2200142, some (.row (.int .i64) y12)), (2200143, some (.row (.int .i64) y13)), (2200144, some (.row (.int .i64) y14))])) n x.1 x.2.2.1 x.2.2.2.2.1 x.2.2.2.2.2.1 x.2.2.2.2.2.2.1 x.2.2.2.2.2.2.2.1 x.2.2.2.2.2.2.2.2.1 y.1.1 y.1.2.1 y.2.1.1 y.2.1.2.1 y.2.2.1 y.2.2.2.1 y.2.2.2.2.1 y.2.2.2.2.2.1 y.2.2.2.2.2.2.1 y.2.2.2.2.2.2.2.1
def LO_impl_ParseMap_l0 (k : Nat) : LTbl := (lcons 10 (ltab sp_impl_ParseMap_l0 (F_impl_ParseMap_l0 k) k) lnil)
theorem lk_impl_ParseMap_l0 (k : Nat) : LoopsOK Tryd.prog glob (E_impl_mapText k) cx_impl_ParseMap (LO_impl_ParseMap_l0 k) ((10, (loopB Tryd.f16 10)) :: []) :=
  LoopsOK.cons (LoopsOK.nil) (E_impl_mapText_ok k).2 (F := F_impl_ParseMap_l0 k) k [] (by kernel_rfl) (by kernel_rfl) (fun K x y => rfl) (fun n x y K => by kernel_rfl)
def sp_impl_ParseMap_l1 : LSp where
  cv := [(10000202, 2200042, (.int .i64)), (10000203, 2200043, (.int .i64)), (10000204, 2200044, (.int .i64)), (10000702, 2200142, (.int .i64)), (10000703, 2200143, (.int .i64)), (10000704, 2200144, (.int .i64))]
  ts := [(0, .val .str), (2, .ptr 2), (4, .val (.sl .str)), (7, .ptr 7), (66, .val (.sl .str)), (67, .val (.int .i64)), (68, .val (.int .i64))]
  ids := [(2, .box (.st (.pair (.int .i64) (.pair (.int .i64) (.pair (.sl (.int .i64)) (.pair (.sl (.int .i64)) (.sl (.int .i64))))))) (.agg (.c (.val (.int .i64)) (.c (.val (.int .i64)) (.c (.own 2200042) (.c (.own 2200043) (.c (.own 2200044) .e))))))), (7, .box (.st (.pair (.int .i64) (.pair (.int .i64) (.pair (.sl (.int .i64)) (.pair (.sl (.int .i64)) (.sl (.int .i64))))))) (.agg (.c (.val (.int .i64)) (.c (.val (.int .i64)) (.c (.own 2200142) (.c (.own 2200143) (.c (.own 2200144) .e))))))), (2200042, .row (.int .i64)), (2200043, .row (.int .i64)), (2200044, .row (.int .i64)), (2200142, .row (.int .i64)), (2200143, .row (.int .i64)), (2200144, .row (.int .i64))]
  tx := fun e => match e with | .exit i => bif Nat.beq i 0 then [0, 2, 4, 7] else [] | .ret => [] | .normal => []
  ix := fun e => match e with | .exit i => bif Nat.beq i 0 then [2, 7, 2200042, 2200043, 2200044, 2200142, 2200143, 2200144] else [] | .ret => [] | .normal => []
def F_impl_ParseMap_l1 (k : Nat) : LArg sp_impl_ParseMap_l1 := fun K n x y => impl_ParseMap_l1 k (fun (y0 : ByteArray) (y1 : List ByteArray) (y2 : Int) (y3 : Int) (y4 : Int) (y5 : Int) (y6 : List Int) (y7 : List Int) (y8 : List Int) (y9 : List Int) (y10 : List Int) (y11 : List Int) => K (.exit 0) (mkSt [(0, .val .str y0), (2, .ptr 2 1 []), (4, .val (.sl .str) y1), (7, .ptr 7 1 [])] [(2, some (.box (.st (.pair (.int .i64) (.pair (.int .i64) (.pair (.sl (.int .i64)) (.pair (.sl (.int .i64)) (.sl (.int .i64))))))) (.agg [.val (.int .i64) y2, .val (.int .i64) y3, .own 2200042 1, .own 2200043 1, .own 2200044 1]))), (7, some (.box (.st (.pair (.int .i64) (.pair (.int .i64) (.pair (.sl (.int .i64)) (.pair (.sl (.int .i64)) (.sl (.int .i64))))))) (.agg [.val (.int .i64) y4, .val (.int .i64) y5, .own 2200142 1, .own 2200143 1, .own 2200144 1]))), (2200042, some (.row (.int .i64) y6)), (2200043, some (.row (.int .i64) y7)), (2200044, some (.row (.int .i64) y8)), (2200142, some (.row (.int .i64) y9)), (2200143, some (.row (.int .i64) y10)), (2200144, some (.row (.int .i64) y11))])) n x.1 x.2.2.1 x.2.2.2.2.1 x.2.2.2.2.2.1 x.2.2.2.2.2.2.1 y.1.1 y.1.2.1 y.2.1.1 y.2.1.2.1 y.2.2.1 y.2.2.2.1 y.2.2.2.2.1 y.2.2.2.2.2.1 y.2.2.2.2.2.2.1 y.2.2.2.2.2.2.2.1
def LO_impl_ParseMap_l1 (k : Nat) : LTbl := (lcons 7 (ltab sp_impl_ParseMap_l1 (F_impl_ParseMap_l1 k) k) (LO_impl_ParseMap_l0 k))
theorem lk_impl_ParseMap_l1 (k : Nat) : LoopsOK Tryd.prog glob (E_impl_mapText k) cx_impl_ParseMap (LO_impl_ParseMap_l1 k) ((7, (loopB Tryd.f16 7)) :: ((10, (loopB Tryd.f16 10)) :: [])) :=
  LoopsOK.cons (lk_impl_ParseMap_l0 k) (E_impl_mapText_ok k).2 (F := F_impl_ParseMap_l1 k) k [0] (by kernel_rfl) (by kernel_rfl) (fun K x y => rfl) (fun n x y K => by kernel_rfl)
def F_impl_ParseMap (k : Nat) : FArg (.c (.val .str) .e) := fun x K => impl_ParseMap k x.1 (fun (r0 : Int × Int × (List Int) × (List Int) × List Int) (r1 : Bool) => K [⟨(.st (.pair (.int .i64) (.pair (.int .i64) (.pair (.sl (.int .i64)) (.pair (.sl (.int .i64)) (.sl (.int .i64))))))), r0, true⟩, ⟨.bool, r1, true⟩])
theorem s_impl_ParseMap (k : Nat) : SoundF Tryd.prog glob 16 (ftab (.c (.val .str) .e) (F_impl_ParseMap k)) :=
  fun_ok (cx := cx_impl_ParseMap) (by kernel_rfl) ⟨types, (E_impl_mapText_ok k).1, (E_impl_mapText_ok k).2, mixed, rfl⟩ Tryd.func16 rfl (lk_impl_ParseMap_l1 k) [0] (by kernel_rfl) (fun x K => by kernel_rfl)
def E_impl_ParseMap (k : Nat) : Tbl := tcons 16 (ftab (.c (.val .str) .e) (F_impl_ParseMap k)) (E_impl_mapText k)
theorem E_impl_ParseMap_ok (k : Nat) : SoundE Tryd.prog glob (E_impl_ParseMap k) ∧ NatE (E_impl_ParseMap k) := tab_cons (s_impl_ParseMap k) (E_impl_mapText_ok k)
/-- laws.eqIntS -/
def cx_laws_eqIntS : Cx := { N := 26, G := glob, C := tys, ad := fun d => false, wk := false }
def sp_laws_eqIntS_l0 : LSp where
  cv := []
  ts := [(0, .val (.sl (.int .i64))), (1, .val (.sl (.int .i64))), (5, .val (.int .i64))]
  ids := []
  tx := fun e => match e with | .exit i => bif Nat.beq i 0 then [] else [] | .ret => [4] | .normal => []
  ix := fun e => match e with | .exit i => bif Nat.beq i 0 then [] else [] | .ret => [] | .normal => []
def F_laws_eqIntS_l0 (k : Nat) : LArg sp_laws_eqIntS_l0 := fun K n x y => laws_eqIntS_l0 k (K (.exit 0) (mkSt [] [])) (fun (y0 : Bool) => K (.ret) (mkSt [(4, .val .bool y0)] [])) n x.1 x.2.1 x.2.2.1
def LO_laws_eqIntS_l0 (k : Nat) : LTbl := (lcons 4 (ltab sp_laws_eqIntS_l0 (F_laws_eqIntS_l0 k) k) lnil)
theorem lk_laws_eqIntS_l0 (k : Nat) : LoopsOK Tryd.prog glob (E_impl_ParseMap k) cx_laws_eqIntS (LO_laws_eqIntS_l0 k) ((4, (loopB Tryd.f42 4)) :: []) :=
  LoopsOK.cons (LoopsOK.nil) (E_impl_ParseMap_ok k).2 (F := F_laws_eqIntS_l0 k) k [] (by kernel_rfl) (by kernel_rfl) (fun K x y => rfl) (fun n x y K => by kernel_rfl)
def F_laws_eqIntS (k : Nat) : FArg (.c (.val (.sl (.int .i64))) (.c (.val (.sl (.int .i64))) .e)) := fun x K => laws_eqIntS k x.1 x.2.1 (fun (r0 : Bool) => K [⟨.bool, r0, true⟩])
theorem s_laws_eqIntS (k : Nat) : SoundF Tryd.prog glob 42 (ftab (.c (.val (.sl (.int .i64))) (.c (.val (.sl (.int .i64))) .e)) (F_laws_eqIntS k)) :=
  fun_ok (cx := cx_laws_eqIntS) (by kernel_rfl) ⟨types, (E_impl_ParseMap_ok k).1, (E_impl_ParseMap_ok k).2, mixed, rfl⟩ Tryd.func42 rfl (lk_laws_eqIntS_l0 k) [0] (by kernel_rfl) (fun x K => by kernel_rfl)
def E_laws_eqIntS (k : Nat) : Tbl := tcons 42 (ftab (.c (.val (.sl (.int .i64))) (.c (.val (.sl (.int .i64))) .e)) (F_laws_eqIntS k)) (E_impl_ParseMap k)
theorem E_laws_eqIntS_ok (k : Nat) : SoundE Tryd.prog glob (E_laws_eqIntS k) ∧ NatE (E_laws_eqIntS k) := tab_cons (s_laws_eqIntS k) (E_impl_ParseMap_ok k)
/-- laws.eqMap -/
def cx_laws_eqMap : Cx := { N := 33, G := glob, C := tys, ad := fun d => false, wk := false }
def F_laws_eqMap (k : Nat) : FArg (.c (.val (.st (.pair (.int .i64) (.pair (.int .i64) (.pair (.sl (.int .i64)) (.pair (.sl (.int .i64)) (.sl (.int .i64)))))))) (.c (.val (.st (.pair (.int .i64) (.pair (.int .i64) (.pair (.sl (.int .i64)) (.pair (.sl (.int .i64)) (.sl (.int .i64)))))))) .e)) := fun x K => laws_eqMap k x.1 x.2.1 (fun (r0 : Bool) => K [⟨.bool, r0, true⟩])
theorem s_laws_eqMap (k : Nat) : SoundF Tryd.prog glob 17 (ftab (.c (.val (.st (.pair (.int .i64) (.pair (.int .i64) (.pair (.sl (.int .i64)) (.pair (.sl (.int .i64)) (.sl (.int .i64)))))))) (.c (.val (.st (.pair (.int .i64) (.pair (.int .i64) (.pair (.sl (.int .i64)) (.pair (.sl (.int .i64)) (.sl (.int .i64)))))))) .e)) (F_laws_eqMap k)) :=
  fun_ok (cx := cx_laws_eqMap) (by kernel_rfl) ⟨types, (E_laws_eqIntS_ok k).1, (E_laws_eqIntS_ok k).2, mixed, rfl⟩ Tryd.func17 rfl (LoopsOK.nil) [] (by kernel_rfl) (fun x K => by kernel_rfl)
def E_laws_eqMap (k : Nat) : Tbl := tcons 17 (ftab (.c (.val (.st (.pair (.int .i64) (.pair (.int .i64) (.pair (.sl (.int .i64)) (.pair (.sl (.int .i64)) (.sl (.int .i64)))))))) (.c (.val (.st (.pair (.int .i64) (.pair (.int .i64) (.pair (.sl (.int .i64)) (.pair (.sl (.int .i64)) (.sl (.int .i64)))))))) .e)) (F_laws_eqMap k)) (E_laws_eqIntS k)
theorem E_laws_eqMap_ok (k : Nat) : SoundE Tryd.prog glob (E_laws_eqMap k) ∧ NatE (E_laws_eqMap k) := tab_cons (s_laws_eqMap k) (E_laws_eqIntS_ok k)
/-- laws.markIntS -/
def cx_laws_markIntS_in : Cx := { N := 19, G := glob, C := tys, ad := fun d => false, wk := true, dp := true }
def sp_laws_markIntS_in_l0 : LSp where
  cv := []
  ts := [(0, .own 3000000), (1, .val (.int .i64)), (5, .val (.int .i64))]
  ids := [(3000000, .row (.int .i64))]
  tx := fun e => match e with | .exit i => bif Nat.beq i 0 then [1] else [] | .ret => [] | .normal => []
  ix := fun e => match e with | .exit i => bif Nat.beq i 0 then [3000000] else [] | .ret => [] | .normal => []
def F_laws_markIntS_in_l0 (k : Nat) : LArg sp_laws_markIntS_in_l0 := fun K n x y => laws_markIntS_in_l0 k (fun (y0 : Int) (y1 : List Int) => K (.exit 0) (mkSt [(1, .val (.int .i64) y0)] [(3000000, some (.row (.int .i64) y1))])) n x.2.1 x.2.2.1 y.1
def LO_laws_markIntS_in_l0 (k : Nat) : LTbl := (lcons 2 (ltab sp_laws_markIntS_in_l0 (F_laws_markIntS_in_l0 k) k) lnil)
theorem lk_laws_markIntS_in_l0 (k : Nat) : LoopsOK Tryd.prog glob (E_laws_eqMap k) cx_laws_markIntS_in (LO_laws_markIntS_in_l0 k) ((2, (loopB Tryd.f43 2)) :: []) :=
  LoopsOK.cons (LoopsOK.nil) (E_laws_eqMap_ok k).2 (F := F_laws_markIntS_in_l0 k) k [] (by kernel_rfl) (by kernel_rfl) (fun K x y => rfl) (fun n x y K => by kernel_rfl)
def F_laws_markIntS_in (k : Nat) : FArg (.c (.val (.sl (.int .i64))) (.c (.val (.int .i64)) .e)) := fun x K => laws_markIntS_in k x.1 x.2.1 (fun (r0 : List Int) (r1 : Int) => K [⟨(.sl (.int .i64)), r0, false⟩, ⟨(.int .i64), r1, true⟩])
theorem s_laws_markIntS_in (k : Nat) : SoundI Tryd.prog glob 43 1 (ftab (.c (.val (.sl (.int .i64))) (.c (.val (.int .i64)) .e)) (F_laws_markIntS_in k)) :=
  funI_ok (m := 1) (cx := cx_laws_markIntS_in) (by kernel_rfl) ⟨types, (E_laws_eqMap_ok k).1, (E_laws_eqMap_ok k).2, mixed, rfl⟩ Tryd.func43 rfl (lk_laws_markIntS_in_l0 k) [0] (by kernel_rfl) (fun x K => by kernel_rfl)
def E_laws_markIntS_in (k : Nat) : Tbl := tcons (43 + 1000000 * 1) (ftab (.c (.val (.sl (.int .i64))) (.c (.val (.int .i64)) .e)) (F_laws_markIntS_in k)) (E_laws_eqMap k)
theorem E_laws_markIntS_in_ok (k : Nat) : SoundE Tryd.prog glob (E_laws_markIntS_in k) ∧ NatE (E_laws_markIntS_in k) := tab_consI (by decide) (s_laws_markIntS_in k) (E_laws_eqMap_ok k)
/-- laws.markMap -/
def cx_laws_markMap_in : Cx := { N := 18, G := glob, C := tys, ad := fun d => false, wk := true, ip := fun d => bif Nat.beq d 43 then 1 else 0, dp := true }
def F_laws_markMap_in (k : Nat) : FArg (.c (.val (.st (.pair (.int .i64) (.pair (.int .i64) (.pair (.sl (.int .i64)) (.pair (.sl (.int .i64)) (.sl (.int .i64)))))))) (.c (.val (.int .i64)) .e)) := fun x K => laws_markMap_in k x.1 x.2.1 (fun (r0 : Int × Int × (List Int) × (List Int) × List Int) (r1 : Int) => K [⟨(.st (.pair (.int .i64) (.pair (.int .i64) (.pair (.sl (.int .i64)) (.pair (.sl (.int .i64)) (.sl (.int .i64))))))), r0, false⟩, ⟨(.int .i64), r1, true⟩])
theorem s_laws_markMap_in (k : Nat) : SoundI Tryd.prog glob 18 1 (ftab (.c (.val (.st (.pair (.int .i64) (.pair (.int .i64) (.pair (.sl (.int .i64)) (.pair (.sl (.int .i64)) (.sl (.int .i64)))))))) (.c (.val (.int .i64)) .e)) (F_laws_markMap_in k)) :=
  funI_ok (m := 1) (cx := cx_laws_markMap_in) (by kernel_rfl) ⟨types, (E_laws_markIntS_in_ok k).1, (E_laws_markIntS_in_ok k).2, mixed, rfl⟩ Tryd.func18 rfl (LoopsOK.nil) [] (by kernel_rfl) (fun x K => by kernel_rfl)
def E_laws_markMap_in (k : Nat) : Tbl := tcons (18 + 1000000 * 1) (ftab (.c (.val (.st (.pair (.int .i64) (.pair (.int .i64) (.pair (.sl (.int .i64)) (.pair (.sl (.int .i64)) (.sl (.int .i64)))))))) (.c (.val (.int .i64)) .e)) (F_laws_markMap_in k)) (E_laws_markIntS_in k)
theorem E_laws_markMap_in_ok (k : Nat) : SoundE Tryd.prog glob (E_laws_markMap_in k) ∧ NatE (E_laws_markMap_in k) := tab_consI (by decide) (s_laws_markMap_in k) (E_laws_markIntS_in_ok k)
/-- laws.heldIntS -/
def cx_laws_heldIntS : Cx := { N := 21, G := glob, C := tys, ad := fun d => false, wk := false }
def sp_laws_heldIntS_l0 : LSp where
  cv := []
  ts := [(0, .val (.sl (.int .i64))), (1, .val (.int .i64)), (5, .val (.int .i64))]
  ids := []
  tx := fun e => match e with | .exit i => bif Nat.beq i 0 then [1] else [] | .ret => [4] | .normal => []
  ix := fun e => match e with | .exit i => bif Nat.beq i 0 then [] else [] | .ret => [] | .normal => []
def F_laws_heldIntS_l0 (k : Nat) : LArg sp_laws_heldIntS_l0 := fun K n x y => laws_heldIntS_l0 k (fun (y0 : Int) => K (.exit 0) (mkSt [(1, .val (.int .i64) y0)] [])) (fun (y0 : Int) => K (.ret) (mkSt [(4, .val (.int .i64) y0)] [])) n x.1 x.2.1 x.2.2.1
def LO_laws_heldIntS_l0 (k : Nat) : LTbl := (lcons 2 (ltab sp_laws_heldIntS_l0 (F_laws_heldIntS_l0 k) k) lnil)
theorem lk_laws_heldIntS_l0 (k : Nat) : LoopsOK Tryd.prog glob (E_laws_markMap_in k) cx_laws_heldIntS (LO_laws_heldIntS_l0 k) ((2, (loopB Tryd.f44 2)) :: []) :=
  LoopsOK.cons (LoopsOK.nil) (E_laws_markMap_in_ok k).2 (F := F_laws_heldIntS_l0 k) k [] (by kernel_rfl) (by kernel_rfl) (fun K x y => rfl) (fun n x y K => by kernel_rfl)
def F_laws_heldIntS (k : Nat) : FArg (.c (.val (.sl (.int .i64))) (.c (.val (.int .i64)) .e)) := fun x K => laws_heldIntS k x.1 x.2.1 (fun (r0 : Int) => K [⟨(.int .i64), r0, true⟩])
theorem s_laws_heldIntS (k : Nat) : SoundF Tryd.prog glob 44 (ftab (.c (.val (.sl (.int .i64))) (.c (.val (.int .i64)) .e)) (F_laws_heldIntS k)) :=
  fun_ok (cx := cx_laws_heldIntS) (by kernel_rfl) ⟨types, (E_laws_markMap_in_ok k).1, (E_laws_markMap_in_ok k).2, mixed, rfl⟩ Tryd.func44 rfl (lk_laws_heldIntS_l0 k) [0] (by kernel_rfl) (fun x K => by kernel_rfl)
def E_laws_heldIntS (k : Nat) : Tbl := tcons 44 (ftab (.c (.val (.sl (.int .i64))) (.c (.val (.int .i64)) .e)) (F_laws_heldIntS k)) (E_laws_markMap_in k)
theorem E_laws_heldIntS_ok (k : Nat) : SoundE Tryd.prog glob (E_laws_heldIntS k) ∧ NatE (E_laws_heldIntS k) := tab_cons (s_laws_heldIntS k) (E_laws_markMap_in_ok k)
/-- laws.heldMap -/
def cx_laws_heldMap : Cx := { N := 24, G := glob, C := tys, ad := fun d => false, wk := false }
def F_laws_heldMap (k : Nat) : FArg (.c (.val (.st (.pair (.int .i64) (.pair (.int .i64) (.pair (.sl (.int .i64)) (.pair (.sl (.int .i64)) (.sl (.int .i64)))))))) (.c (.val (.int .i64)) .e)) := fun x K => laws_heldMap k x.1 x.2.1 (fun (r0 : Int) => K [⟨(.int .i64), r0, true⟩])
theorem s_laws_heldMap (k : Nat) : SoundF Tryd.prog glob 19 (ftab (.c (.val (.st (.pair (.int .i64) (.pair (.int .i64) (.pair (.sl (.int .i64)) (.pair (.sl (.int .i64)) (.sl (.int .i64)))))))) (.c (.val (.int .i64)) .e)) (F_laws_heldMap k)) :=
  fun_ok (cx := cx_laws_heldMap) (by kernel_rfl) ⟨types, (E_laws_heldIntS_ok k).1, (E_laws_heldIntS_ok k).2, mixed, rfl⟩ Tryd.func19 rfl (LoopsOK.nil) [] (by kernel_rfl) (fun x K => by kernel_rfl)
def E_laws_heldMap (k : Nat) : Tbl := tcons 19 (ftab (.c (.val (.st (.pair (.int .i64) (.pair (.int .i64) (.pair (.sl (.int .i64)) (.pair (.sl (.int .i64)) (.sl (.int .i64)))))))) (.c (.val (.int .i64)) .e)) (F_laws_heldMap k)) (E_laws_heldIntS k)
theorem E_laws_heldMap_ok (k : Nat) : SoundE Tryd.prog glob (E_laws_heldMap k) ∧ NatE (E_laws_heldMap k) := tab_cons (s_laws_heldMap k) (E_laws_heldIntS_ok k)
/-- laws.FnExactParseMap -/
def cx_laws_FnExactParseMap : Cx := { N := 66, G := glob, C := tys, ad := fun d => Nat.beq d 16 || Nat.beq d 21 || Nat.beq d 26 || Nat.beq d 38 || Nat.beq d 46 || Nat.beq d 51 || Nat.beq d 60, wk := false, ip := fun d => bif Nat.beq d 18 then 1 else 0, dp := true }
def F_laws_FnExactParseMap (k : Nat) : FArg (.c (.val .str) .e) := fun x K => laws_FnExactParseMap k x.1 (fun (r0 : Bool) => K [⟨.bool, r0, true⟩])
theorem q_laws_FnExactParseMap (k : Nat) (c0 : ByteArray → ∀ {R : Type}, ((Int × Int × (List Int) × (List Int) × List Int) → Bool → Option R) → Option R) (c1 : ByteArray → ∀ {R : Type}, ((Int × Int × (List Int) × (List Int) × List Int) → Bool → Option R) → Option R) (c2 : (Int × Int × (List Int) × (List Int) × List Int) → (Int × Int × (List Int) × (List Int) × List Int) → ∀ {R : Type}, (Bool → Option R) → Option R) (c3 : (Int × Int × (List Int) × (List Int) × List Int) → Int → ∀ {R : Type}, ((Int × Int × (List Int) × (List Int) × List Int) → Int → Option R) → Option R) (c4 : (Int × Int × (List Int) × (List Int) × List Int) → Int → ∀ {R : Type}, (Int → Option R) → Option R) {R : Type} (x : ((.c (.val .str) .e) : Sh).den) (K : List Res → Option R) : (fun (x : ByteArray) (K : Bool → Option R) =>
    bif decide ((1048576 : Int) < ((ByteArray.size x : Nat) : Int)) then
      K true
    else
      c0 x fun (r : Int × Int × (List Int) × (List Int) × List Int) (r0 : Bool) =>
      c1 x fun (r1 : Int × Int × (List Int) × (List Int) × List Int) (r2 : Bool) =>
      c2 r1 r fun (r3 : Bool) =>
      bif !r3 then
        K false
      else
        bif !(r2 == r0) then
          K false
        else
          c3 r1 (1 : Int) fun (t : Int × Int × (List Int) × (List Int) × List Int) (r4 : Int) =>
          c4 (r1.1, (r1.2.1, t.2.2)) (1 : Int) fun (r5 : Int) =>
          bif decide (r5 < (0 : Int)) then
            K false
          else
            bif !(decide (r5 = r4)) then
              K false
            else
              c1 x fun (r6 : Int × Int × (List Int) × (List Int) × List Int) (r7 : Bool) =>
              c2 r6 r fun (r8 : Bool) =>
              bif !r8 then
                K false
              else
                bif !(r7 == r0) then
                  K false
                else
                  c4 (r1.1, (r1.2.1, t.2.2)) (1 : Int) fun (r9 : Int) =>
                  bif decide (r9 < (0 : Int)) then
                    K false
                  else
                    bif !(decide (r9 = r4)) then
                      K false
                    else
                      K true) x.1 (fun (r0 : Bool) => K [⟨.bool, r0, true⟩]) = evFun ((tcons 15 (ftab (.c (.val .str) .e) fun x K => c0 x.1 (fun (r0 : Int × Int × (List Int) × (List Int) × List Int) (r1 : Bool) => K [⟨(.st (.pair (.int .i64) (.pair (.int .i64) (.pair (.sl (.int .i64)) (.pair (.sl (.int .i64)) (.sl (.int .i64))))))), r0, false⟩, ⟨.bool, r1, true⟩])) (tcons 16 (ftab (.c (.val .str) .e) fun x K => c1 x.1 (fun (r0 : Int × Int × (List Int) × (List Int) × List Int) (r1 : Bool) => K [⟨(.st (.pair (.int .i64) (.pair (.int .i64) (.pair (.sl (.int .i64)) (.pair (.sl (.int .i64)) (.sl (.int .i64))))))), r0, true⟩, ⟨.bool, r1, true⟩])) (tcons 17 (ftab (.c (.val (.st (.pair (.int .i64) (.pair (.int .i64) (.pair (.sl (.int .i64)) (.pair (.sl (.int .i64)) (.sl (.int .i64)))))))) (.c (.val (.st (.pair (.int .i64) (.pair (.int .i64) (.pair (.sl (.int .i64)) (.pair (.sl (.int .i64)) (.sl (.int .i64)))))))) .e)) fun x K => c2 x.1 x.2.1 (fun (r0 : Bool) => K [⟨.bool, r0, true⟩])) (tcons (18 + 1000000 * 1) (ftab (.c (.val (.st (.pair (.int .i64) (.pair (.int .i64) (.pair (.sl (.int .i64)) (.pair (.sl (.int .i64)) (.sl (.int .i64)))))))) (.c (.val (.int .i64)) .e)) fun x K => c3 x.1 x.2.1 (fun (r0 : Int × Int × (List Int) × (List Int) × List Int) (r1 : Int) => K [⟨(.st (.pair (.int .i64) (.pair (.int .i64) (.pair (.sl (.int .i64)) (.pair (.sl (.int .i64)) (.sl (.int .i64))))))), r0, false⟩, ⟨(.int .i64), r1, true⟩])) (tcons 19 (ftab (.c (.val (.st (.pair (.int .i64) (.pair (.int .i64) (.pair (.sl (.int .i64)) (.pair (.sl (.int .i64)) (.sl (.int .i64)))))))) (.c (.val (.int .i64)) .e)) fun x K => c4 x.1 x.2.1 (fun (r0 : Int) => K [⟨(.int .i64), r0, true⟩])) tnil)))))) lnil cx_laws_FnExactParseMap Tryd.f3 (give (.c (.val .str) .e) x) K := by kernel_rfl
theorem e_laws_FnExactParseMap (k : Nat) : SoundE Tryd.prog glob (tcons 15 (ftab (.c (.val .str) .e) (F_spec_ParseMap k)) (tcons 16 (ftab (.c (.val .str) .e) (F_impl_ParseMap k)) (tcons 17 (ftab (.c (.val (.st (.pair (.int .i64) (.pair (.int .i64) (.pair (.sl (.int .i64)) (.pair (.sl (.int .i64)) (.sl (.int .i64)))))))) (.c (.val (.st (.pair (.int .i64) (.pair (.int .i64) (.pair (.sl (.int .i64)) (.pair (.sl (.int .i64)) (.sl (.int .i64)))))))) .e)) (F_laws_eqMap k)) (tcons (18 + 1000000 * 1) (ftab (.c (.val (.st (.pair (.int .i64) (.pair (.int .i64) (.pair (.sl (.int .i64)) (.pair (.sl (.int .i64)) (.sl (.int .i64)))))))) (.c (.val (.int .i64)) .e)) (F_laws_markMap_in k)) (tcons 19 (ftab (.c (.val (.st (.pair (.int .i64) (.pair (.int .i64) (.pair (.sl (.int .i64)) (.pair (.sl (.int .i64)) (.sl (.int .i64)))))))) (.c (.val (.int .i64)) .e)) (F_laws_heldMap k)) tnil))))) ∧ NatE (tcons 15 (ftab (.c (.val .str) .e) (F_spec_ParseMap k)) (tcons 16 (ftab (.c (.val .str) .e) (F_impl_ParseMap k)) (tcons 17 (ftab (.c (.val (.st (.pair (.int .i64) (.pair (.int .i64) (.pair (.sl (.int .i64)) (.pair (.sl (.int .i64)) (.sl (.int .i64)))))))) (.c (.val (.st (.pair (.int .i64) (.pair (.int .i64) (.pair (.sl (.int .i64)) (.pair (.sl (.int .i64)) (.sl (.int .i64)))))))) .e)) (F_laws_eqMap k)) (tcons (18 + 1000000 * 1) (ftab (.c (.val (.st (.pair (.int .i64) (.pair (.int .i64) (.pair (.sl (.int .i64)) (.pair (.sl (.int .i64)) (.sl (.int .i64)))))))) (.c (.val (.int .i64)) .e)) (F_laws_markMap_in k)) (tcons 19 (ftab (.c (.val (.st (.pair (.int .i64) (.pair (.int .i64) (.pair (.sl (.int .i64)) (.pair (.sl (.int .i64)) (.sl (.int .i64)))))))) (.c (.val (.int .i64)) .e)) (F_laws_heldMap k)) tnil))))) := (tab_cons (s_spec_ParseMap k) (tab_cons (s_impl_ParseMap k) (tab_cons (s_laws_eqMap k) (tab_consI (by decide) (s_laws_markMap_in k) (tab_cons (s_laws_heldMap k) e0)))))
theorem s_laws_FnExactParseMap (k : Nat) : SoundF Tryd.prog glob 3 (ftab (.c (.val .str) .e) (F_laws_FnExactParseMap k)) :=
  fun_ok (cx := cx_laws_FnExactParseMap) (by kernel_rfl) ⟨types, (e_laws_FnExactParseMap k).1, (e_laws_FnExactParseMap k).2, mixed, rfl⟩ Tryd.func3 rfl (LoopsOK.nil) [] (by kernel_rfl) (fun x K => q_laws_FnExactParseMap k (fun a0 {_} K => spec_ParseMap k a0 K) (fun a0 {_} K => impl_ParseMap k a0 K) (fun a0 a1 {_} K => laws_eqMap k a0 a1 K) (fun a0 a1 {_} K => laws_markMap_in k a0 a1 K) (fun a0 a1 {_} K => laws_heldMap k a0 a1 K) x K)
def E_laws_FnExactParseMap (k : Nat) : Tbl := tcons 3 (ftab (.c (.val .str) .e) (F_laws_FnExactParseMap k)) (E_laws_heldMap k)
theorem E_laws_FnExactParseMap_ok (k : Nat) : SoundE Tryd.prog glob (E_laws_FnExactParseMap k) ∧ NatE (E_laws_FnExactParseMap k) := tab_cons (s_laws_FnExactParseMap k) (E_laws_heldMap_ok k)
end Go.Proofs.YtllmbnfceffgmaaDoor.TieParseMap
