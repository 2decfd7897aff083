import Derived.Test.YtllmbnfceffgmaaDoorEv2
import Derived.Test.YtllmbnfceffgmaaDoorLg0ABKC
import Derived.Test.YtllmbnfceffgmaaDoorShelf
import Derived.KernelRfl
import Derived.Eval
import Derived.Test.YtllmbnfceffgmaaDoorProg
import Derived.Test.YtllmbnfceffgmaaDoorChecked
set_option linter.unusedVariables false
set_option linter.unusedSimpArgs false
set_option linter.unusedSectionVars false
set_option linter.unusedVariables false
set_option maxRecDepth 100000
namespace Go.Proofs.YtllmbnfceffgmaaDoor.TieMapText
open Go Go.Ev Go.Lg Go.Proofs
def tys : Nat → Option Ty := lookT [(3, (.int .i64)), (4, .bool), (5, (.int .u8)), (9, .str), (22, (.sl (.int .i64))), (24, (.st (.pair (.int .i64) (.pair (.int .i64) (.pair (.sl (.int .i64)) (.pair (.sl (.int .i64)) (.sl (.int .i64)))))))), (30, (.st (.pair (.int .i64) (.pair (.int .i64) (.pair (.sl (.int .i64)) (.pair (.sl (.int .i64)) (.sl (.int .i64)))))))), (44, (.st (.pair (.int .i64) (.int .i64)))), (59, (.sl .str)), (66, (.sl (.sl (.int .i64)))), (101, (.arr 6 (.st (.pair (.int .i64) (.int .i64))))), (102, (.sl (.int .u8))), (161, (.arr 20 (.int .u64)))]
def glob : Nat → AV := fun g => bif Nat.beq g 6 then .tab (Lib.pow10Tab.map fun z => Value.int .u64 z) else bif Nat.beq g 0 then .pval (.arr 6 (.st (.pair (.int .i64) (.int .i64)))) impl_directions else .bot
theorem types : Types Tryd.prog tys := types_of (by kernel_rfl)
theorem mixed : Tryd.prog.follows .mixedOrders = true := Checked.mixed Tryd.checked
theorem e0 : SoundE Tryd.prog glob tnil ∧ NatE tnil := ⟨tnil_sound, tnil_nat⟩
/-- laws.szIntS -/
def cx_laws_szIntS : Cx := { N := 12, G := glob, C := tys, ad := fun d => false, wk := false }
def F_laws_szIntS (k : Nat) : FArg (.c (.val (.sl (.int .i64))) (.c (.val (.int .i64)) .e)) := fun x K => laws_szIntS x.1 x.2.1 (fun (r0 : Int) => K [⟨(.int .i64), r0, true⟩])
theorem s_laws_szIntS (k : Nat) : SoundF Tryd.prog glob 54 (ftab (.c (.val (.sl (.int .i64))) (.c (.val (.int .i64)) .e)) (F_laws_szIntS k)) :=
  fun_ok (cx := cx_laws_szIntS) (by kernel_rfl) ⟨types, (e0).1, (e0).2, mixed, rfl⟩ Tryd.func54 rfl (LoopsOK.nil) [] (by kernel_rfl) (fun x K => by kernel_rfl)
def E_laws_szIntS (k : Nat) : Tbl := tcons 54 (ftab (.c (.val (.sl (.int .i64))) (.c (.val (.int .i64)) .e)) (F_laws_szIntS k)) (tnil)
theorem E_laws_szIntS_ok (k : Nat) : SoundE Tryd.prog glob (E_laws_szIntS k) ∧ NatE (E_laws_szIntS k) := ⟨tcons_sound (s_laws_szIntS k) (e0).1, tcons_nat (s_laws_szIntS k) (e0).2⟩
/-- laws.szMap -/
def cx_laws_szMap : Cx := { N := 24, G := glob, C := tys, ad := fun d => false, wk := false }
def F_laws_szMap (k : Nat) : FArg (.c (.val (.st (.pair (.int .i64) (.pair (.int .i64) (.pair (.sl (.int .i64)) (.pair (.sl (.int .i64)) (.sl (.int .i64)))))))) (.c (.val (.int .i64)) .e)) := fun x K => laws_szMap x.1 x.2.1 (fun (r0 : Int) => K [⟨(.int .i64), r0, true⟩])
theorem s_laws_szMap (k : Nat) : SoundF Tryd.prog glob 20 (ftab (.c (.val (.st (.pair (.int .i64) (.pair (.int .i64) (.pair (.sl (.int .i64)) (.pair (.sl (.int .i64)) (.sl (.int .i64)))))))) (.c (.val (.int .i64)) .e)) (F_laws_szMap k)) :=
  fun_ok (cx := cx_laws_szMap) (by kernel_rfl) ⟨types, (E_laws_szIntS_ok k).1, (E_laws_szIntS_ok k).2, mixed, rfl⟩ Tryd.func20 rfl (LoopsOK.nil) [] (by kernel_rfl) (fun x K => by kernel_rfl)
def E_laws_szMap (k : Nat) : Tbl := tcons 20 (ftab (.c (.val (.st (.pair (.int .i64) (.pair (.int .i64) (.pair (.sl (.int .i64)) (.pair (.sl (.int .i64)) (.sl (.int .i64)))))))) (.c (.val (.int .i64)) .e)) (F_laws_szMap k)) (E_laws_szIntS k)
theorem E_laws_szMap_ok (k : Nat) : SoundE Tryd.prog glob (E_laws_szMap k) ∧ NatE (E_laws_szMap k) := ⟨tcons_sound (s_laws_szMap k) (E_laws_szIntS_ok k).1, tcons_nat (s_laws_szMap k) (E_laws_szIntS_ok k).2⟩
/-- laws.toIntS -/
def cx_laws_toIntS : Cx := { N := 22, G := glob, C := tys, ad := fun d => false, wk := false }
def sp_laws_toIntS_l0 : LSp where
  cv := []
  ts := [(0, .val (.sl (.int .i64))), (3, .own 7), (4, .val (.int .i64))]
  ids := [(7, .row (.int .i64))]
  tx := fun e => match e with | .exit i => bif Nat.beq i 0 then [3] else [] | .ret => [] | .normal => []
  ix := fun e => match e with | .exit i => bif Nat.beq i 0 then [7] else [] | .ret => [] | .normal => []
def F_laws_toIntS_l0 (k : Nat) : LArg sp_laws_toIntS_l0 := fun K n x y => laws_toIntS_l0 k (fun (y0 : List Int) => K (.exit 0) (mkSt [(3, .own 7 1)] [(7, some (.row (.int .i64) y0))])) n x.1 x.2.2.1 y.1
def LO_laws_toIntS_l0 (k : Nat) : LTbl := (lcons 3 (ltab sp_laws_toIntS_l0 (F_laws_toIntS_l0 k) k) lnil)
theorem lk_laws_toIntS_l0 (k : Nat) : LoopsOK Tryd.prog glob (E_laws_szMap k) cx_laws_toIntS (LO_laws_toIntS_l0 k) ((3, (loopB Tryd.f56 3)) :: []) :=
  LoopsOK.cons (LoopsOK.nil) (E_laws_szMap_ok k).2 (F := F_laws_toIntS_l0 k) k [] (by kernel_rfl) (by kernel_rfl) (fun K x y => rfl) (fun n x y K => by kernel_rfl)
def F_laws_toIntS (k : Nat) : FArg (.c (.val (.sl (.int .i64))) .e) := fun x K => laws_toIntS k x.1 (fun (r0 : List Int) => K [⟨(.sl (.int .i64)), r0, true⟩])
theorem s_laws_toIntS (k : Nat) : SoundF Tryd.prog glob 56 (ftab (.c (.val (.sl (.int .i64))) .e) (F_laws_toIntS k)) :=
  fun_ok (cx := cx_laws_toIntS) (by kernel_rfl) ⟨types, (E_laws_szMap_ok k).1, (E_laws_szMap_ok k).2, mixed, rfl⟩ Tryd.func56 rfl (lk_laws_toIntS_l0 k) [0] (by kernel_rfl) (fun x K => by kernel_rfl)
def E_laws_toIntS (k : Nat) : Tbl := tcons 56 (ftab (.c (.val (.sl (.int .i64))) .e) (F_laws_toIntS k)) (E_laws_szMap k)
theorem E_laws_toIntS_ok (k : Nat) : SoundE Tryd.prog glob (E_laws_toIntS k) ∧ NatE (E_laws_toIntS k) := ⟨tcons_sound (s_laws_toIntS k) (E_laws_szMap_ok k).1, tcons_nat (s_laws_toIntS k) (E_laws_szMap_ok k).2⟩
/-- laws.toMap -/
def cx_laws_toMap : Cx := { N := 23, G := glob, C := tys, ad := fun d => false, wk := false }
def F_laws_toMap (k : Nat) : FArg (.c (.val (.st (.pair (.int .i64) (.pair (.int .i64) (.pair (.sl (.int .i64)) (.pair (.sl (.int .i64)) (.sl (.int .i64)))))))) .e) := fun x K => laws_toMap k x.1 (fun (r0 : Int × Int × (List Int) × (List Int) × List Int) => K [⟨(.st (.pair (.int .i64) (.pair (.int .i64) (.pair (.sl (.int .i64)) (.pair (.sl (.int .i64)) (.sl (.int .i64))))))), r0, false⟩])
theorem s_laws_toMap (k : Nat) : SoundF Tryd.prog glob 22 (ftab (.c (.val (.st (.pair (.int .i64) (.pair (.int .i64) (.pair (.sl (.int .i64)) (.pair (.sl (.int .i64)) (.sl (.int .i64)))))))) .e) (F_laws_toMap k)) :=
  fun_ok (cx := cx_laws_toMap) (by kernel_rfl) ⟨types, (E_laws_toIntS_ok k).1, (E_laws_toIntS_ok k).2, mixed, rfl⟩ Tryd.func22 rfl (LoopsOK.nil) [] (by kernel_rfl) (fun x K => by kernel_rfl)
def E_laws_toMap (k : Nat) : Tbl := tcons 22 (ftab (.c (.val (.st (.pair (.int .i64) (.pair (.int .i64) (.pair (.sl (.int .i64)) (.pair (.sl (.int .i64)) (.sl (.int .i64)))))))) .e) (F_laws_toMap k)) (E_laws_toIntS k)
theorem E_laws_toMap_ok (k : Nat) : SoundE Tryd.prog glob (E_laws_toMap k) ∧ NatE (E_laws_toMap k) := ⟨tcons_sound (s_laws_toMap k) (E_laws_toIntS_ok k).1, tcons_nat (s_laws_toMap k) (E_laws_toIntS_ok k).2⟩
/-- spec.l1In -/
def cx_spec_l1In : Cx := { N := 15, G := glob, C := tys, ad := fun d => false, wk := false }
def F_spec_l1In (k : Nat) : FArg (.c (.val (.int .i64)) (.c (.val (.int .i64)) (.c (.val (.int .i64)) .e))) := fun x K => spec_l1In x.1 x.2.1 x.2.2.1 (fun (r0 : Bool) => K [⟨.bool, r0, true⟩])
theorem s_spec_l1In (k : Nat) : SoundF Tryd.prog glob 76 (ftab (.c (.val (.int .i64)) (.c (.val (.int .i64)) (.c (.val (.int .i64)) .e))) (F_spec_l1In k)) :=
  fun_ok (cx := cx_spec_l1In) (by kernel_rfl) ⟨types, (E_laws_toMap_ok k).1, (E_laws_toMap_ok k).2, mixed, rfl⟩ Tryd.func76 rfl (LoopsOK.nil) [] (by kernel_rfl) (fun x K => by kernel_rfl)
def E_spec_l1In (k : Nat) : Tbl := tcons 76 (ftab (.c (.val (.int .i64)) (.c (.val (.int .i64)) (.c (.val (.int .i64)) .e))) (F_spec_l1In k)) (E_laws_toMap k)
theorem E_spec_l1In_ok (k : Nat) : SoundE Tryd.prog glob (E_spec_l1In k) ∧ NatE (E_spec_l1In k) := ⟨tcons_sound (s_spec_l1In k) (E_laws_toMap_ok k).1, tcons_nat (s_spec_l1In k) (E_laws_toMap_ok k).2⟩
/-- spec.mSize -/
def cx_spec_mSize : Cx := { N := 8, G := glob, C := tys, ad := fun d => false, wk := false }
def F_spec_mSize (k : Nat) : FArg (.c (.val (.st (.pair (.int .i64) (.pair (.int .i64) (.pair (.sl (.int .i64)) (.pair (.sl (.int .i64)) (.sl (.int .i64)))))))) .e) := fun x K => spec_mSize x.1 (fun (r0 : Int) => K [⟨(.int .i64), r0, true⟩])
theorem s_spec_mSize (k : Nat) : SoundF Tryd.prog glob 89 (ftab (.c (.val (.st (.pair (.int .i64) (.pair (.int .i64) (.pair (.sl (.int .i64)) (.pair (.sl (.int .i64)) (.sl (.int .i64)))))))) .e) (F_spec_mSize k)) :=
  fun_ok (cx := cx_spec_mSize) (by kernel_rfl) ⟨types, (E_spec_l1In_ok k).1, (E_spec_l1In_ok k).2, mixed, rfl⟩ Tryd.func89 rfl (LoopsOK.nil) [] (by kernel_rfl) (fun x K => by kernel_rfl)
def E_spec_mSize (k : Nat) : Tbl := tcons 89 (ftab (.c (.val (.st (.pair (.int .i64) (.pair (.int .i64) (.pair (.sl (.int .i64)) (.pair (.sl (.int .i64)) (.sl (.int .i64)))))))) .e) (F_spec_mSize k)) (E_spec_l1In k)
theorem E_spec_mSize_ok (k : Nat) : SoundE Tryd.prog glob (E_spec_mSize k) ∧ NatE (E_spec_mSize k) := ⟨tcons_sound (s_spec_mSize k) (E_spec_l1In_ok k).1, tcons_nat (s_spec_mSize k) (E_spec_l1In_ok k).2⟩
/-- spec.l1All -/
def cx_spec_l1All : Cx := { N := 21, G := glob, C := tys, ad := fun d => false, wk := false }
def sp_spec_l1All_l0 : LSp where
  cv := []
  ts := [(1, .val (.int .i64)), (2, .val (.int .i64)), (9, .val (.sl (.int .i64))), (10, .val (.int .i64)), (11, .val (.int .i64))]
  ids := []
  tx := fun e => match e with | .exit i => bif Nat.beq i 0 then [] else [] | .ret => [6] | .normal => []
  ix := fun e => match e with | .exit i => bif Nat.beq i 0 then [] else [] | .ret => [] | .normal => []
def F_spec_l1All_l0 (k : Nat) : LArg sp_spec_l1All_l0 := fun K n x y => spec_l1All_l0 k (K (.exit 0) (mkSt [] [])) (fun (y0 : Bool) => K (.ret) (mkSt [(6, .val .bool y0)] [])) n x.1 x.2.1 x.2.2.1 x.2.2.2.1 x.2.2.2.2.1
def LO_spec_l1All_l0 (k : Nat) : LTbl := (lcons 2 (ltab sp_spec_l1All_l0 (F_spec_l1All_l0 k) k) lnil)
theorem lk_spec_l1All_l0 (k : Nat) : LoopsOK Tryd.prog glob (E_spec_mSize k) cx_spec_l1All (LO_spec_l1All_l0 k) ((2, (loopB Tryd.f90 2)) :: []) :=
  LoopsOK.cons (LoopsOK.nil) (E_spec_mSize_ok k).2 (F := F_spec_l1All_l0 k) k [] (by kernel_rfl) (by kernel_rfl) (fun K x y => rfl) (fun n x y K => by kernel_rfl)
def F_spec_l1All (k : Nat) : FArg (.c (.val (.sl (.int .i64))) (.c (.val (.int .i64)) (.c (.val (.int .i64)) .e))) := fun x K => spec_l1All k x.1 x.2.1 x.2.2.1 (fun (r0 : Bool) => K [⟨.bool, r0, true⟩])
theorem s_spec_l1All (k : Nat) : SoundF Tryd.prog glob 90 (ftab (.c (.val (.sl (.int .i64))) (.c (.val (.int .i64)) (.c (.val (.int .i64)) .e))) (F_spec_l1All k)) :=
  fun_ok (cx := cx_spec_l1All) (by kernel_rfl) ⟨types, (E_spec_mSize_ok k).1, (E_spec_mSize_ok k).2, mixed, rfl⟩ Tryd.func90 rfl (lk_spec_l1All_l0 k) [0] (by kernel_rfl) (fun x K => by kernel_rfl)
def E_spec_l1All (k : Nat) : Tbl := tcons 90 (ftab (.c (.val (.sl (.int .i64))) (.c (.val (.int .i64)) (.c (.val (.int .i64)) .e))) (F_spec_l1All k)) (E_spec_mSize k)
theorem E_spec_l1All_ok (k : Nat) : SoundE Tryd.prog glob (E_spec_l1All k) ∧ NatE (E_spec_l1All k) := ⟨tcons_sound (s_spec_l1All k) (E_spec_mSize_ok k).1, tcons_nat (s_spec_l1All k) (E_spec_mSize_ok k).2⟩
/-- spec.mHex -/
def cx_spec_mHex : Cx := { N := 14, G := glob, C := tys, ad := fun d => false, wk := false }
def F_spec_mHex (k : Nat) : FArg (.c (.val (.st (.pair (.int .i64) (.pair (.int .i64) (.pair (.sl (.int .i64)) (.pair (.sl (.int .i64)) (.sl (.int .i64)))))))) (.c (.val (.int .i64)) .e)) := fun x K => spec_mHex x.1 x.2.1 (fun (r0 : Int × Int) => K [⟨(.st (.pair (.int .i64) (.int .i64))), r0, true⟩])
theorem s_spec_mHex (k : Nat) : SoundF Tryd.prog glob 69 (ftab (.c (.val (.st (.pair (.int .i64) (.pair (.int .i64) (.pair (.sl (.int .i64)) (.pair (.sl (.int .i64)) (.sl (.int .i64)))))))) (.c (.val (.int .i64)) .e)) (F_spec_mHex k)) :=
  fun_ok (cx := cx_spec_mHex) (by kernel_rfl) ⟨types, (E_spec_l1All_ok k).1, (E_spec_l1All_ok k).2, mixed, rfl⟩ Tryd.func69 rfl (LoopsOK.nil) [] (by kernel_rfl) (fun x K => by kernel_rfl)
def E_spec_mHex (k : Nat) : Tbl := tcons 69 (ftab (.c (.val (.st (.pair (.int .i64) (.pair (.int .i64) (.pair (.sl (.int .i64)) (.pair (.sl (.int .i64)) (.sl (.int .i64)))))))) (.c (.val (.int .i64)) .e)) (F_spec_mHex k)) (E_spec_l1All k)
theorem E_spec_mHex_ok (k : Nat) : SoundE Tryd.prog glob (E_spec_mHex k) ∧ NatE (E_spec_mHex k) := ⟨tcons_sound (s_spec_mHex k) (E_spec_l1All_ok k).1, tcons_nat (s_spec_mHex k) (E_spec_l1All_ok k).2⟩
/-- spec.hStep -/
def cx_spec_hStep : Cx := { N := 20, G := glob, C := tys, ad := fun d => false, wk := false }
def F_spec_hStep (k : Nat) : FArg (.c (.val (.st (.pair (.int .i64) (.int .i64)))) (.c (.val (.int .i64)) .e)) := fun x K => spec_hStep x.1 x.2.1 (fun (r0 : Int × Int) => K [⟨(.st (.pair (.int .i64) (.int .i64))), r0, true⟩])
theorem s_spec_hStep (k : Nat) : SoundF Tryd.prog glob 92 (ftab (.c (.val (.st (.pair (.int .i64) (.int .i64)))) (.c (.val (.int .i64)) .e)) (F_spec_hStep k)) :=
  fun_ok (cx := cx_spec_hStep) (by kernel_rfl) ⟨types, (E_spec_mHex_ok k).1, (E_spec_mHex_ok k).2, mixed, rfl⟩ Tryd.func92 rfl (LoopsOK.nil) [] (by kernel_rfl) (fun x K => by kernel_rfl)
def E_spec_hStep (k : Nat) : Tbl := tcons 92 (ftab (.c (.val (.st (.pair (.int .i64) (.int .i64)))) (.c (.val (.int .i64)) .e)) (F_spec_hStep k)) (E_spec_mHex k)
theorem E_spec_hStep_ok (k : Nat) : SoundE Tryd.prog glob (E_spec_hStep k) ∧ NatE (E_spec_hStep k) := ⟨tcons_sound (s_spec_hStep k) (E_spec_mHex_ok k).1, tcons_nat (s_spec_hStep k) (E_spec_mHex_ok k).2⟩
/-- spec.mIndex -/
def cx_spec_mIndex : Cx := { N := 29, G := glob, C := tys, ad := fun d => false, wk := false }
def F_spec_mIndex (k : Nat) : FArg (.c (.val (.st (.pair (.int .i64) (.pair (.int .i64) (.pair (.sl (.int .i64)) (.pair (.sl (.int .i64)) (.sl (.int .i64)))))))) (.c (.val (.st (.pair (.int .i64) (.int .i64)))) .e)) := fun x K => spec_mIndex x.1 x.2.1 (fun (r0 : Int) => K [⟨(.int .i64), r0, true⟩])
theorem s_spec_mIndex (k : Nat) : SoundF Tryd.prog glob 66 (ftab (.c (.val (.st (.pair (.int .i64) (.pair (.int .i64) (.pair (.sl (.int .i64)) (.pair (.sl (.int .i64)) (.sl (.int .i64)))))))) (.c (.val (.st (.pair (.int .i64) (.int .i64)))) .e)) (F_spec_mIndex k)) :=
  fun_ok (cx := cx_spec_mIndex) (by kernel_rfl) ⟨types, (E_spec_hStep_ok k).1, (E_spec_hStep_ok k).2, mixed, rfl⟩ Tryd.func66 rfl (LoopsOK.nil) [] (by kernel_rfl) (fun x K => by kernel_rfl)
def E_spec_mIndex (k : Nat) : Tbl := tcons 66 (ftab (.c (.val (.st (.pair (.int .i64) (.pair (.int .i64) (.pair (.sl (.int .i64)) (.pair (.sl (.int .i64)) (.sl (.int .i64)))))))) (.c (.val (.st (.pair (.int .i64) (.int .i64)))) .e)) (F_spec_mIndex k)) (E_spec_hStep k)
theorem E_spec_mIndex_ok (k : Nat) : SoundE Tryd.prog glob (E_spec_mIndex k) ∧ NatE (E_spec_mIndex k) := ⟨tcons_sound (s_spec_mIndex k) (E_spec_hStep_ok k).1, tcons_nat (s_spec_mIndex k) (E_spec_hStep_ok k).2⟩
/-- spec.mNext -/
def cx_spec_mNext : Cx := { N := 14, G := glob, C := tys, ad := fun d => false, wk := false }
def F_spec_mNext (k : Nat) : FArg (.c (.val (.st (.pair (.int .i64) (.pair (.int .i64) (.pair (.sl (.int .i64)) (.pair (.sl (.int .i64)) (.sl (.int .i64)))))))) (.c (.val (.int .i64)) (.c (.val (.int .i64)) .e))) := fun x K => spec_mNext x.1 x.2.1 x.2.2.1 (fun (r0 : Int) => K [⟨(.int .i64), r0, true⟩])
theorem s_spec_mNext (k : Nat) : SoundF Tryd.prog glob 61 (ftab (.c (.val (.st (.pair (.int .i64) (.pair (.int .i64) (.pair (.sl (.int .i64)) (.pair (.sl (.int .i64)) (.sl (.int .i64)))))))) (.c (.val (.int .i64)) (.c (.val (.int .i64)) .e))) (F_spec_mNext k)) :=
  fun_ok (cx := cx_spec_mNext) (by kernel_rfl) ⟨types, (E_spec_mIndex_ok k).1, (E_spec_mIndex_ok k).2, mixed, rfl⟩ Tryd.func61 rfl (LoopsOK.nil) [] (by kernel_rfl) (fun x K => by kernel_rfl)
def E_spec_mNext (k : Nat) : Tbl := tcons 61 (ftab (.c (.val (.st (.pair (.int .i64) (.pair (.int .i64) (.pair (.sl (.int .i64)) (.pair (.sl (.int .i64)) (.sl (.int .i64)))))))) (.c (.val (.int .i64)) (.c (.val (.int .i64)) .e))) (F_spec_mNext k)) (E_spec_mIndex k)
theorem E_spec_mNext_ok (k : Nat) : SoundE Tryd.prog glob (E_spec_mNext k) ∧ NatE (E_spec_mNext k) := ⟨tcons_sound (s_spec_mNext k) (E_spec_mIndex_ok k).1, tcons_nat (s_spec_mNext k) (E_spec_mIndex_ok k).2⟩
/-- spec.l1Rising -/
def cx_spec_l1Rising : Cx := { N := 35, G := glob, C := tys, ad := fun d => false, wk := false }
def sp_spec_l1Rising_l0 : LSp where
  cv := []
  ts := [(0, .val (.sl (.int .i64))), (1, .val (.int .i64)), (2, .val (.int .i64)), (9, .val (.sl (.int .i64))), (10, .val (.int .i64)), (11, .val (.int .i64))]
  ids := []
  tx := fun e => match e with | .exit i => bif Nat.beq i 0 then [] else [] | .ret => [6] | .normal => []
  ix := fun e => match e with | .exit i => bif Nat.beq i 0 then [] else [] | .ret => [] | .normal => []
def F_spec_l1Rising_l0 (k : Nat) : LArg sp_spec_l1Rising_l0 := fun K n x y => spec_l1Rising_l0 k (K (.exit 0) (mkSt [] [])) (fun (y0 : Bool) => K (.ret) (mkSt [(6, .val .bool y0)] [])) n x.1 x.2.1 x.2.2.1 x.2.2.2.1 x.2.2.2.2.1 x.2.2.2.2.2.1
def LO_spec_l1Rising_l0 (k : Nat) : LTbl := (lcons 2 (ltab sp_spec_l1Rising_l0 (F_spec_l1Rising_l0 k) k) lnil)
theorem lk_spec_l1Rising_l0 (k : Nat) : LoopsOK Tryd.prog glob (E_spec_mNext k) cx_spec_l1Rising (LO_spec_l1Rising_l0 k) ((2, (loopB Tryd.f91 2)) :: []) :=
  LoopsOK.cons (LoopsOK.nil) (E_spec_mNext_ok k).2 (F := F_spec_l1Rising_l0 k) k [] (by kernel_rfl) (by kernel_rfl) (fun K x y => rfl) (fun n x y K => by kernel_rfl)
def F_spec_l1Rising (k : Nat) : FArg (.c (.val (.sl (.int .i64))) (.c (.val (.int .i64)) (.c (.val (.int .i64)) .e))) := fun x K => spec_l1Rising k x.1 x.2.1 x.2.2.1 (fun (r0 : Bool) => K [⟨.bool, r0, true⟩])
theorem s_spec_l1Rising (k : Nat) : SoundF Tryd.prog glob 91 (ftab (.c (.val (.sl (.int .i64))) (.c (.val (.int .i64)) (.c (.val (.int .i64)) .e))) (F_spec_l1Rising k)) :=
  fun_ok (cx := cx_spec_l1Rising) (by kernel_rfl) ⟨types, (E_spec_mNext_ok k).1, (E_spec_mNext_ok k).2, mixed, rfl⟩ Tryd.func91 rfl (lk_spec_l1Rising_l0 k) [0] (by kernel_rfl) (fun x K => by kernel_rfl)
def E_spec_l1Rising (k : Nat) : Tbl := tcons 91 (ftab (.c (.val (.sl (.int .i64))) (.c (.val (.int .i64)) (.c (.val (.int .i64)) .e))) (F_spec_l1Rising k)) (E_spec_mNext k)
theorem E_spec_l1Rising_ok (k : Nat) : SoundE Tryd.prog glob (E_spec_l1Rising k) ∧ NatE (E_spec_l1Rising k) := ⟨tcons_sound (s_spec_l1Rising k) (E_spec_mNext_ok k).1, tcons_nat (s_spec_l1Rising k) (E_spec_mNext_ok k).2⟩
/-- spec.mEdges -/
def cx_spec_mEdges : Cx := { N := 36, G := glob, C := tys, ad := fun d => false, wk := false }
def sp_spec_mEdges_l0 : LSp where
  cv := []
  ts := [(1, .val (.sl (.int .i64))), (2, .ptr 2), (7, .val (.sl (.int .i64))), (8, .val (.int .i64)), (9, .val (.int .i64))]
  ids := [(2, .box (.st (.pair (.int .i64) (.pair (.int .i64) (.pair (.sl (.int .i64)) (.pair (.sl (.int .i64)) (.sl (.int .i64))))))) (.val (.st (.pair (.int .i64) (.pair (.int .i64) (.pair (.sl (.int .i64)) (.pair (.sl (.int .i64)) (.sl (.int .i64)))))))))]
  tx := fun e => match e with | .exit i => bif Nat.beq i 0 then [1, 2] else [] | .ret => [4] | .normal => []
  ix := fun e => match e with | .exit i => bif Nat.beq i 0 then [2] else [] | .ret => [] | .normal => []
def F_spec_mEdges_l0 (k : Nat) : LArg sp_spec_mEdges_l0 := fun K n x y => spec_mEdges_l0 k (fun (y0 : List Int) (y1 : Int × Int × (List Int) × (List Int) × List Int) => K (.exit 0) (mkSt [(1, .val (.sl (.int .i64)) y0), (2, .ptr 2 1 [])] [(2, some (.box (.st (.pair (.int .i64) (.pair (.int .i64) (.pair (.sl (.int .i64)) (.pair (.sl (.int .i64)) (.sl (.int .i64))))))) (.val (.st (.pair (.int .i64) (.pair (.int .i64) (.pair (.sl (.int .i64)) (.pair (.sl (.int .i64)) (.sl (.int .i64))))))) y1)))])) (fun (y0 : Bool) => K (.ret) (mkSt [(4, .val .bool y0)] [])) n x.1 x.2.2.1 x.2.2.2.1 x.2.2.2.2.1 y.1
def LO_spec_mEdges_l0 (k : Nat) : LTbl := (lcons 2 (ltab sp_spec_mEdges_l0 (F_spec_mEdges_l0 k) k) lnil)
theorem lk_spec_mEdges_l0 (k : Nat) : LoopsOK Tryd.prog glob (E_spec_l1Rising k) cx_spec_mEdges (LO_spec_mEdges_l0 k) ((2, (loopB Tryd.f60 2)) :: []) :=
  LoopsOK.cons (LoopsOK.nil) (E_spec_l1Rising_ok k).2 (F := F_spec_mEdges_l0 k) k [] (by kernel_rfl) (by kernel_rfl) (fun K x y => rfl) (fun n x y K => by kernel_rfl)
def F_spec_mEdges (k : Nat) : FArg (.c (.val (.st (.pair (.int .i64) (.pair (.int .i64) (.pair (.sl (.int .i64)) (.pair (.sl (.int .i64)) (.sl (.int .i64)))))))) (.c (.val (.sl (.int .i64))) .e)) := fun x K => spec_mEdges k x.1 x.2.1 (fun (r0 : Bool) => K [⟨.bool, r0, true⟩])
theorem s_spec_mEdges (k : Nat) : SoundF Tryd.prog glob 60 (ftab (.c (.val (.st (.pair (.int .i64) (.pair (.int .i64) (.pair (.sl (.int .i64)) (.pair (.sl (.int .i64)) (.sl (.int .i64)))))))) (.c (.val (.sl (.int .i64))) .e)) (F_spec_mEdges k)) :=
  fun_ok (cx := cx_spec_mEdges) (by kernel_rfl) ⟨types, (E_spec_l1Rising_ok k).1, (E_spec_l1Rising_ok k).2, mixed, rfl⟩ Tryd.func60 rfl (lk_spec_mEdges_l0 k) [0] (by kernel_rfl) (fun x K => by kernel_rfl)
def E_spec_mEdges (k : Nat) : Tbl := tcons 60 (ftab (.c (.val (.st (.pair (.int .i64) (.pair (.int .i64) (.pair (.sl (.int .i64)) (.pair (.sl (.int .i64)) (.sl (.int .i64)))))))) (.c (.val (.sl (.int .i64))) .e)) (F_spec_mEdges k)) (E_spec_l1Rising k)
theorem E_spec_mEdges_ok (k : Nat) : SoundE Tryd.prog glob (E_spec_mEdges k) ∧ NatE (E_spec_mEdges k) := ⟨tcons_sound (s_spec_mEdges k) (E_spec_l1Rising_ok k).1, tcons_nat (s_spec_mEdges k) (E_spec_l1Rising_ok k).2⟩
/-- spec.mGood -/
def cx_spec_mGood : Cx := { N := 36, G := glob, C := tys, ad := fun d => false, wk := false }
def F_spec_mGood (k : Nat) : FArg (.c (.val (.st (.pair (.int .i64) (.pair (.int .i64) (.pair (.sl (.int .i64)) (.pair (.sl (.int .i64)) (.sl (.int .i64)))))))) .e) := fun x K => spec_mGood k x.1 (fun (r0 : Bool) => K [⟨.bool, r0, true⟩])
theorem s_spec_mGood (k : Nat) : SoundF Tryd.prog glob 55 (ftab (.c (.val (.st (.pair (.int .i64) (.pair (.int .i64) (.pair (.sl (.int .i64)) (.pair (.sl (.int .i64)) (.sl (.int .i64)))))))) .e) (F_spec_mGood k)) :=
  fun_ok (cx := cx_spec_mGood) (by kernel_rfl) ⟨types, (E_spec_mEdges_ok k).1, (E_spec_mEdges_ok k).2, mixed, rfl⟩ Tryd.func55 rfl (LoopsOK.nil) [] (by kernel_rfl) (fun x K => by kernel_rfl)
def E_spec_mGood (k : Nat) : Tbl := tcons 55 (ftab (.c (.val (.st (.pair (.int .i64) (.pair (.int .i64) (.pair (.sl (.int .i64)) (.pair (.sl (.int .i64)) (.sl (.int .i64)))))))) .e) (F_spec_mGood k)) (E_spec_mEdges k)
theorem E_spec_mGood_ok (k : Nat) : SoundE Tryd.prog glob (E_spec_mGood k) ∧ NatE (E_spec_mGood k) := ⟨tcons_sound (s_spec_mGood k) (E_spec_mEdges_ok k).1, tcons_nat (s_spec_mGood k) (E_spec_mEdges_ok k).2⟩
/-- spec.l1Num -/
def cx_spec_l1Num : Cx := { N := 20, G := glob, C := tys, ad := fun d => false, wk := false }
def F_spec_l1Num (d : Nat) : FArg (.c (.val (.int .i64)) .e) := fun x K => spec_l1Num d x.1 (fun (r0 : ByteArray) => K [⟨.str, r0, true⟩])
theorem s_spec_l1Num (k : Nat) : SoundF Tryd.prog glob 98 (ftab (.c (.val (.int .i64)) .e) (F_spec_l1Num k)) :=
  rec_ok (cx := cx_spec_l1Num) (by kernel_rfl) ⟨types, (E_spec_mGood_ok k).1, (E_spec_mGood_ok k).2, mixed, rfl⟩ Tryd.func98 rfl (by kernel_rfl) (fun x K => rfl) (fun d x K => by kernel_rfl) k
def E_spec_l1Num (k : Nat) : Tbl := tcons 98 (ftab (.c (.val (.int .i64)) .e) (F_spec_l1Num k)) (E_spec_mGood k)
theorem E_spec_l1Num_ok (k : Nat) : SoundE Tryd.prog glob (E_spec_l1Num k) ∧ NatE (E_spec_l1Num k) := ⟨tcons_sound (s_spec_l1Num k) (E_spec_mGood_ok k).1, tcons_nat (s_spec_l1Num k) (E_spec_mGood_ok k).2⟩
/-- spec.mList -/
def cx_spec_mList : Cx := { N := 21, G := glob, C := tys, ad := fun d => false, wk := false }
def sp_spec_mList_l0 : LSp where
  cv := []
  ts := [(0, .val .str), (7, .val (.sl (.int .i64))), (8, .val (.int .i64)), (9, .val (.int .i64))]
  ids := []
  tx := fun e => match e with | .exit i => bif Nat.beq i 0 then [0] else [] | .ret => [] | .normal => []
  ix := fun e => match e with | .exit i => bif Nat.beq i 0 then [] else [] | .ret => [] | .normal => []
def F_spec_mList_l0 (k : Nat) : LArg sp_spec_mList_l0 := fun K n x y => spec_mList_l0 k (fun (y0 : ByteArray) => K (.exit 0) (mkSt [(0, .val .str y0)] [])) n x.1 x.2.1 x.2.2.1 x.2.2.2.1
def LO_spec_mList_l0 (k : Nat) : LTbl := (lcons 2 (ltab sp_spec_mList_l0 (F_spec_mList_l0 k) k) lnil)
theorem lk_spec_mList_l0 (k : Nat) : LoopsOK Tryd.prog glob (E_spec_l1Num k) cx_spec_mList (LO_spec_mList_l0 k) ((2, (loopB Tryd.f99 2)) :: []) :=
  LoopsOK.cons (LoopsOK.nil) (E_spec_l1Num_ok k).2 (F := F_spec_mList_l0 k) k [] (by kernel_rfl) (by kernel_rfl) (fun K x y => rfl) (fun n x y K => by kernel_rfl)
def F_spec_mList (k : Nat) : FArg (.c (.val .str) (.c (.val (.sl (.int .i64))) .e)) := fun x K => spec_mList k x.1 x.2.1 (fun (r0 : ByteArray) => K [⟨.str, r0, true⟩])
theorem s_spec_mList (k : Nat) : SoundF Tryd.prog glob 99 (ftab (.c (.val .str) (.c (.val (.sl (.int .i64))) .e)) (F_spec_mList k)) :=
  fun_ok (cx := cx_spec_mList) (by kernel_rfl) ⟨types, (E_spec_l1Num_ok k).1, (E_spec_l1Num_ok k).2, mixed, rfl⟩ Tryd.func99 rfl (lk_spec_mList_l0 k) [0] (by kernel_rfl) (fun x K => by kernel_rfl)
def E_spec_mList (k : Nat) : Tbl := tcons 99 (ftab (.c (.val .str) (.c (.val (.sl (.int .i64))) .e)) (F_spec_mList k)) (E_spec_l1Num k)
theorem E_spec_mList_ok (k : Nat) : SoundE Tryd.prog glob (E_spec_mList k) ∧ NatE (E_spec_mList k) := ⟨tcons_sound (s_spec_mList k) (E_spec_l1Num_ok k).1, tcons_nat (s_spec_mList k) (E_spec_l1Num_ok k).2⟩
/-- spec.mText -/
def cx_spec_mText : Cx := { N := 48, G := glob, C := tys, ad := fun d => false, wk := false }
def sp_spec_mText_l0 : LSp where
  cv := []
  ts := [(1, .ptr 1), (3, .val .str), (17, .val (.sl (.int .i64))), (18, .val (.int .i64)), (19, .val (.int .i64))]
  ids := [(1, .box (.st (.pair (.int .i64) (.pair (.int .i64) (.pair (.sl (.int .i64)) (.pair (.sl (.int .i64)) (.sl (.int .i64))))))) (.val (.st (.pair (.int .i64) (.pair (.int .i64) (.pair (.sl (.int .i64)) (.pair (.sl (.int .i64)) (.sl (.int .i64)))))))))]
  tx := fun e => match e with | .exit i => bif Nat.beq i 0 then [1, 3] else [] | .ret => [] | .normal => []
  ix := fun e => match e with | .exit i => bif Nat.beq i 0 then [1] else [] | .ret => [] | .normal => []
def F_spec_mText_l0 (k : Nat) : LArg sp_spec_mText_l0 := fun K n x y => spec_mText_l0 k (fun (y0 : ByteArray) (y1 : Int × Int × (List Int) × (List Int) × List Int) => K (.exit 0) (mkSt [(1, .ptr 1 1 []), (3, .val .str y0)] [(1, some (.box (.st (.pair (.int .i64) (.pair (.int .i64) (.pair (.sl (.int .i64)) (.pair (.sl (.int .i64)) (.sl (.int .i64))))))) (.val (.st (.pair (.int .i64) (.pair (.int .i64) (.pair (.sl (.int .i64)) (.pair (.sl (.int .i64)) (.sl (.int .i64))))))) y1)))])) n x.2.1 x.2.2.1 x.2.2.2.1 x.2.2.2.2.1 y.1
def LO_spec_mText_l0 (k : Nat) : LTbl := (lcons 3 (ltab sp_spec_mText_l0 (F_spec_mText_l0 k) k) lnil)
theorem lk_spec_mText_l0 (k : Nat) : LoopsOK Tryd.prog glob (E_spec_mList k) cx_spec_mText (LO_spec_mText_l0 k) ((3, (loopB Tryd.f79 3)) :: []) :=
  LoopsOK.cons (LoopsOK.nil) (E_spec_mList_ok k).2 (F := F_spec_mText_l0 k) k [] (by kernel_rfl) (by kernel_rfl) (fun K x y => rfl) (fun n x y K => by kernel_rfl)
def F_spec_mText (k : Nat) : FArg (.c (.val (.st (.pair (.int .i64) (.pair (.int .i64) (.pair (.sl (.int .i64)) (.pair (.sl (.int .i64)) (.sl (.int .i64)))))))) .e) := fun x K => spec_mText k x.1 (fun (r0 : ByteArray) => K [⟨.str, r0, true⟩])
theorem s_spec_mText (k : Nat) : SoundF Tryd.prog glob 79 (ftab (.c (.val (.st (.pair (.int .i64) (.pair (.int .i64) (.pair (.sl (.int .i64)) (.pair (.sl (.int .i64)) (.sl (.int .i64)))))))) .e) (F_spec_mText k)) :=
  fun_ok (cx := cx_spec_mText) (by kernel_rfl) ⟨types, (E_spec_mList_ok k).1, (E_spec_mList_ok k).2, mixed, rfl⟩ Tryd.func79 rfl (lk_spec_mText_l0 k) [0] (by kernel_rfl) (fun x K => by kernel_rfl)
def E_spec_mText (k : Nat) : Tbl := tcons 79 (ftab (.c (.val (.st (.pair (.int .i64) (.pair (.int .i64) (.pair (.sl (.int .i64)) (.pair (.sl (.int .i64)) (.sl (.int .i64)))))))) .e) (F_spec_mText k)) (E_spec_mList k)
theorem E_spec_mText_ok (k : Nat) : SoundE Tryd.prog glob (E_spec_mText k) ∧ NatE (E_spec_mText k) := ⟨tcons_sound (s_spec_mText k) (E_spec_mList_ok k).1, tcons_nat (s_spec_mText k) (E_spec_mList_ok k).2⟩
/-- spec.MapText -/
def cx_spec_MapText : Cx := { N := 9, G := glob, C := tys, ad := fun d => false, wk := false }
def F_spec_MapText (k : Nat) : FArg (.c (.val (.st (.pair (.int .i64) (.pair (.int .i64) (.pair (.sl (.int .i64)) (.pair (.sl (.int .i64)) (.sl (.int .i64)))))))) .e) := fun x K => spec_MapText k x.1 (fun (r0 : ByteArray) (r1 : Bool) => K [⟨.str, r0, true⟩, ⟨.bool, r1, true⟩])
theorem s_spec_MapText (k : Nat) : SoundF Tryd.prog glob 45 (ftab (.c (.val (.st (.pair (.int .i64) (.pair (.int .i64) (.pair (.sl (.int .i64)) (.pair (.sl (.int .i64)) (.sl (.int .i64)))))))) .e) (F_spec_MapText k)) :=
  fun_ok (cx := cx_spec_MapText) (by kernel_rfl) ⟨types, (E_spec_mText_ok k).1, (E_spec_mText_ok k).2, mixed, rfl⟩ Tryd.func45 rfl (LoopsOK.nil) [] (by kernel_rfl) (fun x K => by kernel_rfl)
def E_spec_MapText (k : Nat) : Tbl := tcons 45 (ftab (.c (.val (.st (.pair (.int .i64) (.pair (.int .i64) (.pair (.sl (.int .i64)) (.pair (.sl (.int .i64)) (.sl (.int .i64)))))))) .e) (F_spec_MapText k)) (E_spec_mText k)
theorem E_spec_MapText_ok (k : Nat) : SoundE Tryd.prog glob (E_spec_MapText k) ∧ NatE (E_spec_MapText k) := ⟨tcons_sound (s_spec_MapText k) (E_spec_mText_ok k).1, tcons_nat (s_spec_MapText k) (E_spec_mText_ok k).2⟩
/-- impl.inRange -/
def cx_impl_inRange : Cx := { N := 15, G := glob, C := tys, ad := fun d => false, wk := false }
def F_impl_inRange (k : Nat) : FArg (.c (.val (.int .i64)) (.c (.val (.int .i64)) (.c (.val (.int .i64)) .e))) := fun x K => impl_inRange x.1 x.2.1 x.2.2.1 (fun (r0 : Bool) => K [⟨.bool, r0, true⟩])
theorem s_impl_inRange (k : Nat) : SoundF Tryd.prog glob 52 (ftab (.c (.val (.int .i64)) (.c (.val (.int .i64)) (.c (.val (.int .i64)) .e))) (F_impl_inRange k)) :=
  fun_ok (cx := cx_impl_inRange) (by kernel_rfl) ⟨types, (E_spec_MapText_ok k).1, (E_spec_MapText_ok k).2, mixed, rfl⟩ Tryd.func52 rfl (LoopsOK.nil) [] (by kernel_rfl) (fun x K => by kernel_rfl)
def E_impl_inRange (k : Nat) : Tbl := tcons 52 (ftab (.c (.val (.int .i64)) (.c (.val (.int .i64)) (.c (.val (.int .i64)) .e))) (F_impl_inRange k)) (E_spec_MapText k)
theorem E_impl_inRange_ok (k : Nat) : SoundE Tryd.prog glob (E_impl_inRange k) ∧ NatE (E_impl_inRange k) := ⟨tcons_sound (s_impl_inRange k) (E_spec_MapText_ok k).1, tcons_nat (s_impl_inRange k) (E_spec_MapText_ok k).2⟩
/-- impl.isIndex -/
def cx_impl_isIndex : Cx := { N := 9, G := glob, C := tys, ad := fun d => false, wk := false }
def F_impl_isIndex (k : Nat) : FArg (.c (.val (.int .i64)) (.c (.val (.int .i64)) .e)) := fun x K => impl_isIndex x.1 x.2.1 (fun (r0 : Bool) => K [⟨.bool, r0, true⟩])
theorem s_impl_isIndex (k : Nat) : SoundF Tryd.prog glob 57 (ftab (.c (.val (.int .i64)) (.c (.val (.int .i64)) .e)) (F_impl_isIndex k)) :=
  fun_ok (cx := cx_impl_isIndex) (by kernel_rfl) ⟨types, (E_impl_inRange_ok k).1, (E_impl_inRange_ok k).2, mixed, rfl⟩ Tryd.func57 rfl (LoopsOK.nil) [] (by kernel_rfl) (fun x K => by kernel_rfl)
def E_impl_isIndex (k : Nat) : Tbl := tcons 57 (ftab (.c (.val (.int .i64)) (.c (.val (.int .i64)) .e)) (F_impl_isIndex k)) (E_impl_inRange k)
theorem E_impl_isIndex_ok (k : Nat) : SoundE Tryd.prog glob (E_impl_isIndex k) ∧ NatE (E_impl_isIndex k) := ⟨tcons_sound (s_impl_isIndex k) (E_impl_inRange_ok k).1, tcons_nat (s_impl_isIndex k) (E_impl_inRange_ok k).2⟩
/-- impl.increasing -/
def cx_impl_increasing : Cx := { N := 20, G := glob, C := tys, ad := fun d => false, wk := false }
def sp_impl_increasing_l0 : LSp where
  cv := []
  ts := [(0, .val (.sl (.int .i64))), (3, .val (.int .i64))]
  ids := []
  tx := fun e => match e with | .exit i => bif Nat.beq i 0 then [] else [] | .ret => [2] | .normal => []
  ix := fun e => match e with | .exit i => bif Nat.beq i 0 then [] else [] | .ret => [] | .normal => []
def F_impl_increasing_l0 (k : Nat) : LArg sp_impl_increasing_l0 := fun K n x y => impl_increasing_l0 k (K (.exit 0) (mkSt [] [])) (fun (y0 : Bool) => K (.ret) (mkSt [(2, .val .bool y0)] [])) n x.1 x.2.1
def LO_impl_increasing_l0 (k : Nat) : LTbl := (lcons 2 (ltab sp_impl_increasing_l0 (F_impl_increasing_l0 k) k) lnil)
theorem lk_impl_increasing_l0 (k : Nat) : LoopsOK Tryd.prog glob (E_impl_isIndex k) cx_impl_increasing (LO_impl_increasing_l0 k) ((2, (loopB Tryd.f58 2)) :: []) :=
  LoopsOK.cons (LoopsOK.nil) (E_impl_isIndex_ok k).2 (F := F_impl_increasing_l0 k) k [] (by kernel_rfl) (by kernel_rfl) (fun K x y => rfl) (fun n x y K => by kernel_rfl)
def F_impl_increasing (k : Nat) : FArg (.c (.val (.sl (.int .i64))) .e) := fun x K => impl_increasing k x.1 (fun (r0 : Bool) => K [⟨.bool, r0, true⟩])
theorem s_impl_increasing (k : Nat) : SoundF Tryd.prog glob 58 (ftab (.c (.val (.sl (.int .i64))) .e) (F_impl_increasing k)) :=
  fun_ok (cx := cx_impl_increasing) (by kernel_rfl) ⟨types, (E_impl_isIndex_ok k).1, (E_impl_isIndex_ok k).2, mixed, rfl⟩ Tryd.func58 rfl (lk_impl_increasing_l0 k) [0] (by kernel_rfl) (fun x K => by kernel_rfl)
def E_impl_increasing (k : Nat) : Tbl := tcons 58 (ftab (.c (.val (.sl (.int .i64))) .e) (F_impl_increasing k)) (E_impl_isIndex k)
theorem E_impl_increasing_ok (k : Nat) : SoundE Tryd.prog glob (E_impl_increasing k) ∧ NatE (E_impl_increasing k) := ⟨tcons_sound (s_impl_increasing k) (E_impl_isIndex_ok k).1, tcons_nat (s_impl_increasing k) (E_impl_isIndex_ok k).2⟩
/-- impl.hexOf -/
def cx_impl_hexOf : Cx := { N := 14, G := glob, C := tys, ad := fun d => false, wk := false }
def F_impl_hexOf (k : Nat) : FArg (.c (.val (.st (.pair (.int .i64) (.pair (.int .i64) (.pair (.sl (.int .i64)) (.pair (.sl (.int .i64)) (.sl (.int .i64)))))))) (.c (.val (.int .i64)) .e)) := fun x K => impl_hexOf x.1 x.2.1 (fun (r0 : Int × Int) => K [⟨(.st (.pair (.int .i64) (.int .i64))), r0, true⟩])
theorem s_impl_hexOf (k : Nat) : SoundF Tryd.prog glob 70 (ftab (.c (.val (.st (.pair (.int .i64) (.pair (.int .i64) (.pair (.sl (.int .i64)) (.pair (.sl (.int .i64)) (.sl (.int .i64)))))))) (.c (.val (.int .i64)) .e)) (F_impl_hexOf k)) :=
  fun_ok (cx := cx_impl_hexOf) (by kernel_rfl) ⟨types, (E_impl_increasing_ok k).1, (E_impl_increasing_ok k).2, mixed, rfl⟩ Tryd.func70 rfl (LoopsOK.nil) [] (by kernel_rfl) (fun x K => by kernel_rfl)
def E_impl_hexOf (k : Nat) : Tbl := tcons 70 (ftab (.c (.val (.st (.pair (.int .i64) (.pair (.int .i64) (.pair (.sl (.int .i64)) (.pair (.sl (.int .i64)) (.sl (.int .i64)))))))) (.c (.val (.int .i64)) .e)) (F_impl_hexOf k)) (E_impl_increasing k)
theorem E_impl_hexOf_ok (k : Nat) : SoundE Tryd.prog glob (E_impl_hexOf k) ∧ NatE (E_impl_hexOf k) := ⟨tcons_sound (s_impl_hexOf k) (E_impl_increasing_ok k).1, tcons_nat (s_impl_hexOf k) (E_impl_increasing_ok k).2⟩
/-- impl.stepBy -/
def cx_impl_stepBy : Cx := { N := 26, G := glob, C := tys, ad := fun d => false, wk := false }
def F_impl_stepBy (k : Nat) : FArg (.c (.val (.st (.pair (.int .i64) (.int .i64)))) (.c (.val (.int .i64)) (.c (.val (.int .i64)) .e))) := fun x K => impl_stepBy x.1 x.2.1 x.2.2.1 (fun (r0 : Int × Int) => K [⟨(.st (.pair (.int .i64) (.int .i64))), r0, true⟩])
theorem s_impl_stepBy (k : Nat) : SoundF Tryd.prog glob 93 (ftab (.c (.val (.st (.pair (.int .i64) (.int .i64)))) (.c (.val (.int .i64)) (.c (.val (.int .i64)) .e))) (F_impl_stepBy k)) :=
  fun_ok (cx := cx_impl_stepBy) (by kernel_rfl) ⟨types, (E_impl_hexOf_ok k).1, (E_impl_hexOf_ok k).2, mixed, rfl⟩ Tryd.func93 rfl (LoopsOK.nil) [] (by kernel_rfl) (fun x K => by kernel_rfl)
def E_impl_stepBy (k : Nat) : Tbl := tcons 93 (ftab (.c (.val (.st (.pair (.int .i64) (.int .i64)))) (.c (.val (.int .i64)) (.c (.val (.int .i64)) .e))) (F_impl_stepBy k)) (E_impl_hexOf k)
theorem E_impl_stepBy_ok (k : Nat) : SoundE Tryd.prog glob (E_impl_stepBy k) ∧ NatE (E_impl_stepBy k) := ⟨tcons_sound (s_impl_stepBy k) (E_impl_hexOf_ok k).1, tcons_nat (s_impl_stepBy k) (E_impl_hexOf_ok k).2⟩
/-- impl.indexOf -/
def cx_impl_indexOf : Cx := { N := 27, G := glob, C := tys, ad := fun d => false, wk := false }
def F_impl_indexOf (k : Nat) : FArg (.c (.val (.st (.pair (.int .i64) (.pair (.int .i64) (.pair (.sl (.int .i64)) (.pair (.sl (.int .i64)) (.sl (.int .i64)))))))) (.c (.val (.st (.pair (.int .i64) (.int .i64)))) .e)) := fun x K => impl_indexOf x.1 x.2.1 (fun (r0 : Int) => K [⟨(.int .i64), r0, true⟩])
theorem s_impl_indexOf (k : Nat) : SoundF Tryd.prog glob 67 (ftab (.c (.val (.st (.pair (.int .i64) (.pair (.int .i64) (.pair (.sl (.int .i64)) (.pair (.sl (.int .i64)) (.sl (.int .i64)))))))) (.c (.val (.st (.pair (.int .i64) (.int .i64)))) .e)) (F_impl_indexOf k)) :=
  fun_ok (cx := cx_impl_indexOf) (by kernel_rfl) ⟨types, (E_impl_stepBy_ok k).1, (E_impl_stepBy_ok k).2, mixed, rfl⟩ Tryd.func67 rfl (LoopsOK.nil) [] (by kernel_rfl) (fun x K => by kernel_rfl)
def E_impl_indexOf (k : Nat) : Tbl := tcons 67 (ftab (.c (.val (.st (.pair (.int .i64) (.pair (.int .i64) (.pair (.sl (.int .i64)) (.pair (.sl (.int .i64)) (.sl (.int .i64)))))))) (.c (.val (.st (.pair (.int .i64) (.int .i64)))) .e)) (F_impl_indexOf k)) (E_impl_stepBy k)
theorem E_impl_indexOf_ok (k : Nat) : SoundE Tryd.prog glob (E_impl_indexOf k) ∧ NatE (E_impl_indexOf k) := ⟨tcons_sound (s_impl_indexOf k) (E_impl_stepBy_ok k).1, tcons_nat (s_impl_indexOf k) (E_impl_stepBy_ok k).2⟩
/-- impl.nextTo -/
def cx_impl_nextTo : Cx := { N := 14, G := glob, C := tys, ad := fun d => false, wk := false }
def F_impl_nextTo (k : Nat) : FArg (.c (.val (.st (.pair (.int .i64) (.pair (.int .i64) (.pair (.sl (.int .i64)) (.pair (.sl (.int .i64)) (.sl (.int .i64)))))))) (.c (.val (.int .i64)) (.c (.val (.int .i64)) .e))) := fun x K => impl_nextTo x.1 x.2.1 x.2.2.1 (fun (r0 : Int) => K [⟨(.int .i64), r0, true⟩])
theorem s_impl_nextTo (k : Nat) : SoundF Tryd.prog glob 62 (ftab (.c (.val (.st (.pair (.int .i64) (.pair (.int .i64) (.pair (.sl (.int .i64)) (.pair (.sl (.int .i64)) (.sl (.int .i64)))))))) (.c (.val (.int .i64)) (.c (.val (.int .i64)) .e))) (F_impl_nextTo k)) :=
  fun_ok (cx := cx_impl_nextTo) (by kernel_rfl) ⟨types, (E_impl_indexOf_ok k).1, (E_impl_indexOf_ok k).2, mixed, rfl⟩ Tryd.func62 rfl (LoopsOK.nil) [] (by kernel_rfl) (fun x K => by kernel_rfl)
def E_impl_nextTo (k : Nat) : Tbl := tcons 62 (ftab (.c (.val (.st (.pair (.int .i64) (.pair (.int .i64) (.pair (.sl (.int .i64)) (.pair (.sl (.int .i64)) (.sl (.int .i64)))))))) (.c (.val (.int .i64)) (.c (.val (.int .i64)) .e))) (F_impl_nextTo k)) (E_impl_indexOf k)
theorem E_impl_nextTo_ok (k : Nat) : SoundE Tryd.prog glob (E_impl_nextTo k) ∧ NatE (E_impl_nextTo k) := ⟨tcons_sound (s_impl_nextTo k) (E_impl_indexOf_ok k).1, tcons_nat (s_impl_nextTo k) (E_impl_indexOf_ok k).2⟩
/-- impl.isEdge -/
def cx_impl_isEdge : Cx := { N := 23, G := glob, C := tys, ad := fun d => false, wk := false }
def F_impl_isEdge (k : Nat) : FArg (.c (.val (.st (.pair (.int .i64) (.pair (.int .i64) (.pair (.sl (.int .i64)) (.pair (.sl (.int .i64)) (.sl (.int .i64)))))))) (.c (.val (.int .i64)) .e)) := fun x K => impl_isEdge x.1 x.2.1 (fun (r0 : Bool) => K [⟨.bool, r0, true⟩])
theorem s_impl_isEdge (k : Nat) : SoundF Tryd.prog glob 59 (ftab (.c (.val (.st (.pair (.int .i64) (.pair (.int .i64) (.pair (.sl (.int .i64)) (.pair (.sl (.int .i64)) (.sl (.int .i64)))))))) (.c (.val (.int .i64)) .e)) (F_impl_isEdge k)) :=
  fun_ok (cx := cx_impl_isEdge) (by kernel_rfl) ⟨types, (E_impl_nextTo_ok k).1, (E_impl_nextTo_ok k).2, mixed, rfl⟩ Tryd.func59 rfl (LoopsOK.nil) [] (by kernel_rfl) (fun x K => by kernel_rfl)
def E_impl_isEdge (k : Nat) : Tbl := tcons 59 (ftab (.c (.val (.st (.pair (.int .i64) (.pair (.int .i64) (.pair (.sl (.int .i64)) (.pair (.sl (.int .i64)) (.sl (.int .i64)))))))) (.c (.val (.int .i64)) .e)) (F_impl_isEdge k)) (E_impl_nextTo k)
theorem E_impl_isEdge_ok (k : Nat) : SoundE Tryd.prog glob (E_impl_isEdge k) ∧ NatE (E_impl_isEdge k) := ⟨tcons_sound (s_impl_isEdge k) (E_impl_nextTo_ok k).1, tcons_nat (s_impl_isEdge k) (E_impl_nextTo_ok k).2⟩
/-- impl.IsMap -/
def cx_impl_IsMap : Cx := { N := 66, G := glob, C := tys, ad := fun d => false, wk := false }
def sp_impl_IsMap_l0 : LSp where
  cv := []
  ts := [(1, .ptr 1), (31, .val (.sl (.int .i64))), (32, .val (.int .i64)), (33, .val (.int .i64))]
  ids := [(1, .box (.st (.pair (.int .i64) (.pair (.int .i64) (.pair (.sl (.int .i64)) (.pair (.sl (.int .i64)) (.sl (.int .i64))))))) (.val (.st (.pair (.int .i64) (.pair (.int .i64) (.pair (.sl (.int .i64)) (.pair (.sl (.int .i64)) (.sl (.int .i64)))))))))]
  tx := fun e => match e with | .exit i => bif Nat.beq i 0 then [1] else [] | .ret => [2] | .normal => []
  ix := fun e => match e with | .exit i => bif Nat.beq i 0 then [1] else [] | .ret => [] | .normal => []
def F_impl_IsMap_l0 (k : Nat) : LArg sp_impl_IsMap_l0 := fun K n x y => impl_IsMap_l0 k (fun (y0 : Int × Int × (List Int) × (List Int) × List Int) => K (.exit 0) (mkSt [(1, .ptr 1 1 [])] [(1, some (.box (.st (.pair (.int .i64) (.pair (.int .i64) (.pair (.sl (.int .i64)) (.pair (.sl (.int .i64)) (.sl (.int .i64))))))) (.val (.st (.pair (.int .i64) (.pair (.int .i64) (.pair (.sl (.int .i64)) (.pair (.sl (.int .i64)) (.sl (.int .i64))))))) y0)))])) (fun (y0 : Bool) => K (.ret) (mkSt [(2, .val .bool y0)] [])) n x.2.1 x.2.2.1 x.2.2.2.1 y.1
def LO_impl_IsMap_l0 (k : Nat) : LTbl := (lcons 4 (ltab sp_impl_IsMap_l0 (F_impl_IsMap_l0 k) k) lnil)
theorem lk_impl_IsMap_l0 (k : Nat) : LoopsOK Tryd.prog glob (E_impl_isEdge k) cx_impl_IsMap (LO_impl_IsMap_l0 k) ((4, (loopB Tryd.f23 4)) :: []) :=
  LoopsOK.cons (LoopsOK.nil) (E_impl_isEdge_ok k).2 (F := F_impl_IsMap_l0 k) k [] (by kernel_rfl) (by kernel_rfl) (fun K x y => rfl) (fun n x y K => by kernel_rfl)
def sp_impl_IsMap_l1 : LSp where
  cv := []
  ts := [(1, .ptr 1), (45, .own 45), (46, .val (.int .i64)), (47, .val (.int .i64)), (54, .val (.sl (.int .i64))), (55, .val (.int .i64)), (56, .val (.int .i64))]
  ids := [(1, .box (.st (.pair (.int .i64) (.pair (.int .i64) (.pair (.sl (.int .i64)) (.pair (.sl (.int .i64)) (.sl (.int .i64))))))) (.val (.st (.pair (.int .i64) (.pair (.int .i64) (.pair (.sl (.int .i64)) (.pair (.sl (.int .i64)) (.sl (.int .i64))))))))), (45, .row (.sl (.int .i64)))]
  tx := fun e => match e with | .exit i => bif Nat.beq i 4 then [1, 45, 46, 47] else [] | .ret => [2] | .normal => []
  ix := fun e => match e with | .exit i => bif Nat.beq i 4 then [1, 45] else [] | .ret => [] | .normal => []
def F_impl_IsMap_l1 (k : Nat) : LArg sp_impl_IsMap_l1 := fun K n x y => impl_IsMap_l1 k (fun (y0 : Int) (y1 : Int) (y2 : Int × Int × (List Int) × (List Int) × List Int) (y3 : List (List Int)) => K (.exit 4) (mkSt [(1, .ptr 1 1 []), (45, .own 45 1), (46, .val (.int .i64) y0), (47, .val (.int .i64) y1)] [(1, some (.box (.st (.pair (.int .i64) (.pair (.int .i64) (.pair (.sl (.int .i64)) (.pair (.sl (.int .i64)) (.sl (.int .i64))))))) (.val (.st (.pair (.int .i64) (.pair (.int .i64) (.pair (.sl (.int .i64)) (.pair (.sl (.int .i64)) (.sl (.int .i64))))))) y2))), (45, some (.row (.sl (.int .i64)) y3))])) (fun (y0 : Bool) => K (.ret) (mkSt [(2, .val .bool y0)] [])) n x.2.2.1 x.2.2.2.1 x.2.2.2.2.1 x.2.2.2.2.2.1 x.2.2.2.2.2.2.1 y.1 y.2.1
def LO_impl_IsMap_l1 (k : Nat) : LTbl := (lcons 15 (ltab sp_impl_IsMap_l1 (F_impl_IsMap_l1 k) k) (LO_impl_IsMap_l0 k))
theorem lk_impl_IsMap_l1 (k : Nat) : LoopsOK Tryd.prog glob (E_impl_isEdge k) cx_impl_IsMap (LO_impl_IsMap_l1 k) ((15, (loopB Tryd.f23 15)) :: ((4, (loopB Tryd.f23 4)) :: [])) :=
  LoopsOK.cons (lk_impl_IsMap_l0 k) (E_impl_isEdge_ok k).2 (F := F_impl_IsMap_l1 k) k [] (by kernel_rfl) (by kernel_rfl) (fun K x y => rfl) (fun n x y K => by kernel_rfl)
def sp_impl_IsMap_l2 : LSp where
  cv := []
  ts := [(1, .ptr 1), (45, .own 45), (46, .val (.int .i64)), (47, .val (.int .i64))]
  ids := [(1, .box (.st (.pair (.int .i64) (.pair (.int .i64) (.pair (.sl (.int .i64)) (.pair (.sl (.int .i64)) (.sl (.int .i64))))))) (.val (.st (.pair (.int .i64) (.pair (.int .i64) (.pair (.sl (.int .i64)) (.pair (.sl (.int .i64)) (.sl (.int .i64))))))))), (45, .row (.sl (.int .i64)))]
  tx := fun e => match e with | .exit i => bif Nat.beq i 2 then [] else [] | .ret => [2] | .normal => []
  ix := fun e => match e with | .exit i => bif Nat.beq i 2 then [] else [] | .ret => [] | .normal => []
def F_impl_IsMap_l2 (k : Nat) : LArg sp_impl_IsMap_l2 := fun K n x y => impl_IsMap_l2 k (K (.exit 2) (mkSt [] [])) (fun (y0 : Bool) => K (.ret) (mkSt [(2, .val .bool y0)] [])) n x.2.2.1 x.2.2.2.1 y.1 y.2.1
def LO_impl_IsMap_l2 (k : Nat) : LTbl := (lcons 10 (ltab sp_impl_IsMap_l2 (F_impl_IsMap_l2 k) k) (LO_impl_IsMap_l1 k))
theorem lk_impl_IsMap_l2 (k : Nat) : LoopsOK Tryd.prog glob (E_impl_isEdge k) cx_impl_IsMap (LO_impl_IsMap_l2 k) ((10, (loopB Tryd.f23 10)) :: ((15, (loopB Tryd.f23 15)) :: ((4, (loopB Tryd.f23 4)) :: []))) :=
  LoopsOK.cons (lk_impl_IsMap_l1 k) (E_impl_isEdge_ok k).2 (F := F_impl_IsMap_l2 k) k [0] (by kernel_rfl) (by kernel_rfl) (fun K x y => rfl) (fun n x y K => by kernel_rfl)
def F_impl_IsMap (k : Nat) : FArg (.c (.val (.st (.pair (.int .i64) (.pair (.int .i64) (.pair (.sl (.int .i64)) (.pair (.sl (.int .i64)) (.sl (.int .i64)))))))) .e) := fun x K => impl_IsMap k x.1 (fun (r0 : Bool) => K [⟨.bool, r0, true⟩])
theorem s_impl_IsMap (k : Nat) : SoundF Tryd.prog glob 23 (ftab (.c (.val (.st (.pair (.int .i64) (.pair (.int .i64) (.pair (.sl (.int .i64)) (.pair (.sl (.int .i64)) (.sl (.int .i64)))))))) .e) (F_impl_IsMap k)) :=
  fun_ok (cx := cx_impl_IsMap) (by kernel_rfl) ⟨types, (E_impl_isEdge_ok k).1, (E_impl_isEdge_ok k).2, mixed, rfl⟩ Tryd.func23 rfl (lk_impl_IsMap_l2 k) [2, 0] (by kernel_rfl) (fun x K => by kernel_rfl)
def E_impl_IsMap (k : Nat) : Tbl := tcons 23 (ftab (.c (.val (.st (.pair (.int .i64) (.pair (.int .i64) (.pair (.sl (.int .i64)) (.pair (.sl (.int .i64)) (.sl (.int .i64)))))))) .e) (F_impl_IsMap k)) (E_impl_isEdge k)
theorem E_impl_IsMap_ok (k : Nat) : SoundE Tryd.prog glob (E_impl_IsMap k) ∧ NatE (E_impl_IsMap k) := ⟨tcons_sound (s_impl_IsMap k) (E_impl_isEdge_ok k).1, tcons_nat (s_impl_IsMap k) (E_impl_isEdge_ok k).2⟩
/-- strconv.Itoa -/
def F_strconv_Itoa (k : Nat) : FArg (.c (.val (.int .i64)) .e) := fun x K => strconv_Itoa x.1 fun r => K [⟨.str, r, true⟩]
theorem s_strconv_Itoa (k : Nat) : SoundF Tryd.prog glob 88 (ftab (.c (.val (.int .i64)) .e) (F_strconv_Itoa k)) := itoa_sound (g := 6) (by kernel_rfl) (by kernel_rfl) rfl (fun n h0 h1 w ht => Tryd.strconv_Itoa n h0 h1 w ht)
def E_strconv_Itoa (k : Nat) : Tbl := tcons 88 (ftab (.c (.val (.int .i64)) .e) (F_strconv_Itoa k)) (E_impl_IsMap k)
theorem E_strconv_Itoa_ok (k : Nat) : SoundE Tryd.prog glob (E_strconv_Itoa k) ∧ NatE (E_strconv_Itoa k) := ⟨tcons_sound (s_strconv_Itoa k) (E_impl_IsMap_ok k).1, tcons_nat (s_strconv_Itoa k) (E_impl_IsMap_ok k).2⟩
/-- strings.Join -/
def F_strings_Join (k : Nat) : FArg (.c (.val (.sl .str)) (.c (.val .str) .e)) := fun x K => strings_Join x.1 x.2.1 fun r => K [⟨.str, r, true⟩]
theorem s_strings_Join (k : Nat) : SoundF Tryd.prog glob 109 (ftab (.c (.val (.sl .str)) (.c (.val .str) .e)) (F_strings_Join k)) := join_sound (by kernel_rfl) (fun a c sep w => Tryd.strings_Join_none a c sep w) (fun bk o c xs sep w h1 h2 h3 h4 h5 => Tryd.strings_Join bk o c xs sep w h1 h2 h3 h4 h5)
def E_strings_Join (k : Nat) : Tbl := tcons 109 (ftab (.c (.val (.sl .str)) (.c (.val .str) .e)) (F_strings_Join k)) (E_strconv_Itoa k)
theorem E_strings_Join_ok (k : Nat) : SoundE Tryd.prog glob (E_strings_Join k) ∧ NatE (E_strings_Join k) := ⟨tcons_sound (s_strings_Join k) (E_strconv_Itoa_ok k).1, tcons_nat (s_strings_Join k) (E_strconv_Itoa_ok k).2⟩
/-- impl.wordsText -/
def cx_impl_wordsText : Cx := { N := 24, G := glob, C := tys, ad := fun d => false, wk := false }
def sp_impl_wordsText_l0 : LSp where
  cv := []
  ts := [(5, .own 9), (10, .val (.sl (.int .i64))), (11, .val (.int .i64)), (12, .val (.int .i64))]
  ids := [(9, .row .str)]
  tx := fun e => match e with | .exit i => bif Nat.beq i 0 then [5] else [] | .ret => [] | .normal => []
  ix := fun e => match e with | .exit i => bif Nat.beq i 0 then [9] else [] | .ret => [] | .normal => []
def F_impl_wordsText_l0 (k : Nat) : LArg sp_impl_wordsText_l0 := fun K n x y => impl_wordsText_l0 k (fun (y0 : List ByteArray) => K (.exit 0) (mkSt [(5, .own 9 1)] [(9, some (.row .str y0))])) n x.2.1 x.2.2.1 x.2.2.2.1 y.1
def LO_impl_wordsText_l0 (k : Nat) : LTbl := (lcons 3 (ltab sp_impl_wordsText_l0 (F_impl_wordsText_l0 k) k) lnil)
theorem lk_impl_wordsText_l0 (k : Nat) : LoopsOK Tryd.prog glob (E_strings_Join k) cx_impl_wordsText (LO_impl_wordsText_l0 k) ((3, (loopB Tryd.f87 3)) :: []) :=
  LoopsOK.cons (LoopsOK.nil) (E_strings_Join_ok k).2 (F := F_impl_wordsText_l0 k) k [] (by kernel_rfl) (by kernel_rfl) (fun K x y => rfl) (fun n x y K => by kernel_rfl)
def F_impl_wordsText (k : Nat) : FArg (.c (.val .str) (.c (.val (.sl (.int .i64))) .e)) := fun x K => impl_wordsText k x.1 x.2.1 (fun (r0 : ByteArray) => K [⟨.str, r0, true⟩])
theorem s_impl_wordsText (k : Nat) : SoundF Tryd.prog glob 87 (ftab (.c (.val .str) (.c (.val (.sl (.int .i64))) .e)) (F_impl_wordsText k)) :=
  fun_ok (cx := cx_impl_wordsText) (by kernel_rfl) ⟨types, (E_strings_Join_ok k).1, (E_strings_Join_ok k).2, mixed, rfl⟩ Tryd.func87 rfl (lk_impl_wordsText_l0 k) [0] (by kernel_rfl) (fun x K => by kernel_rfl)
def E_impl_wordsText (k : Nat) : Tbl := tcons 87 (ftab (.c (.val .str) (.c (.val (.sl (.int .i64))) .e)) (F_impl_wordsText k)) (E_strings_Join k)
theorem E_impl_wordsText_ok (k : Nat) : SoundE Tryd.prog glob (E_impl_wordsText k) ∧ NatE (E_impl_wordsText k) := ⟨tcons_sound (s_impl_wordsText k) (E_strings_Join_ok k).1, tcons_nat (s_impl_wordsText k) (E_strings_Join_ok k).2⟩
/-- impl.mapText -/
def cx_impl_mapText : Cx := { N := 47, G := glob, C := tys, ad := fun d => false, wk := false }
def sp_impl_mapText_l0 : LSp where
  cv := []
  ts := [(1, .ptr 1), (3, .val .str), (14, .val (.sl (.int .i64))), (15, .val (.int .i64)), (16, .val (.int .i64))]
  ids := [(1, .box (.st (.pair (.int .i64) (.pair (.int .i64) (.pair (.sl (.int .i64)) (.pair (.sl (.int .i64)) (.sl (.int .i64))))))) (.val (.st (.pair (.int .i64) (.pair (.int .i64) (.pair (.sl (.int .i64)) (.pair (.sl (.int .i64)) (.sl (.int .i64)))))))))]
  tx := fun e => match e with | .exit i => bif Nat.beq i 0 then [1, 3] else [] | .ret => [] | .normal => []
  ix := fun e => match e with | .exit i => bif Nat.beq i 0 then [1] else [] | .ret => [] | .normal => []
def F_impl_mapText_l0 (k : Nat) : LArg sp_impl_mapText_l0 := fun K n x y => impl_mapText_l0 k (fun (y0 : ByteArray) (y1 : Int × Int × (List Int) × (List Int) × List Int) => K (.exit 0) (mkSt [(1, .ptr 1 1 []), (3, .val .str y0)] [(1, some (.box (.st (.pair (.int .i64) (.pair (.int .i64) (.pair (.sl (.int .i64)) (.pair (.sl (.int .i64)) (.sl (.int .i64))))))) (.val (.st (.pair (.int .i64) (.pair (.int .i64) (.pair (.sl (.int .i64)) (.pair (.sl (.int .i64)) (.sl (.int .i64))))))) y1)))])) n x.2.1 x.2.2.1 x.2.2.2.1 x.2.2.2.2.1 y.1
def LO_impl_mapText_l0 (k : Nat) : LTbl := (lcons 3 (ltab sp_impl_mapText_l0 (F_impl_mapText_l0 k) k) lnil)
theorem lk_impl_mapText_l0 (k : Nat) : LoopsOK Tryd.prog glob (E_impl_wordsText k) cx_impl_mapText (LO_impl_mapText_l0 k) ((3, (loopB Tryd.f53 3)) :: []) :=
  LoopsOK.cons (LoopsOK.nil) (E_impl_wordsText_ok k).2 (F := F_impl_mapText_l0 k) k [] (by kernel_rfl) (by kernel_rfl) (fun K x y => rfl) (fun n x y K => by kernel_rfl)
def F_impl_mapText (k : Nat) : FArg (.c (.val (.st (.pair (.int .i64) (.pair (.int .i64) (.pair (.sl (.int .i64)) (.pair (.sl (.int .i64)) (.sl (.int .i64)))))))) .e) := fun x K => impl_mapText k x.1 (fun (r0 : ByteArray) => K [⟨.str, r0, true⟩])
theorem s_impl_mapText (k : Nat) : SoundF Tryd.prog glob 53 (ftab (.c (.val (.st (.pair (.int .i64) (.pair (.int .i64) (.pair (.sl (.int .i64)) (.pair (.sl (.int .i64)) (.sl (.int .i64)))))))) .e) (F_impl_mapText k)) :=
  fun_ok (cx := cx_impl_mapText) (by kernel_rfl) ⟨types, (E_impl_wordsText_ok k).1, (E_impl_wordsText_ok k).2, mixed, rfl⟩ Tryd.func53 rfl (lk_impl_mapText_l0 k) [0] (by kernel_rfl) (fun x K => by kernel_rfl)
def E_impl_mapText (k : Nat) : Tbl := tcons 53 (ftab (.c (.val (.st (.pair (.int .i64) (.pair (.int .i64) (.pair (.sl (.int .i64)) (.pair (.sl (.int .i64)) (.sl (.int .i64)))))))) .e) (F_impl_mapText k)) (E_impl_wordsText k)
theorem E_impl_mapText_ok (k : Nat) : SoundE Tryd.prog glob (E_impl_mapText k) ∧ NatE (E_impl_mapText k) := ⟨tcons_sound (s_impl_mapText k) (E_impl_wordsText_ok k).1, tcons_nat (s_impl_mapText k) (E_impl_wordsText_ok k).2⟩
/-- impl.MapText -/
def cx_impl_MapText : Cx := { N := 9, G := glob, C := tys, ad := fun d => false, wk := false }
def F_impl_MapText (k : Nat) : FArg (.c (.val (.st (.pair (.int .i64) (.pair (.int .i64) (.pair (.sl (.int .i64)) (.pair (.sl (.int .i64)) (.sl (.int .i64)))))))) .e) := fun x K => impl_MapText k x.1 (fun (r0 : ByteArray) (r1 : Bool) => K [⟨.str, r0, true⟩, ⟨.bool, r1, true⟩])
theorem s_impl_MapText (k : Nat) : SoundF Tryd.prog glob 46 (ftab (.c (.val (.st (.pair (.int .i64) (.pair (.int .i64) (.pair (.sl (.int .i64)) (.pair (.sl (.int .i64)) (.sl (.int .i64)))))))) .e) (F_impl_MapText k)) :=
  fun_ok (cx := cx_impl_MapText) (by kernel_rfl) ⟨types, (E_impl_mapText_ok k).1, (E_impl_mapText_ok k).2, mixed, rfl⟩ Tryd.func46 rfl (LoopsOK.nil) [] (by kernel_rfl) (fun x K => by kernel_rfl)
def E_impl_MapText (k : Nat) : Tbl := tcons 46 (ftab (.c (.val (.st (.pair (.int .i64) (.pair (.int .i64) (.pair (.sl (.int .i64)) (.pair (.sl (.int .i64)) (.sl (.int .i64)))))))) .e) (F_impl_MapText k)) (E_impl_mapText k)
theorem E_impl_MapText_ok (k : Nat) : SoundE Tryd.prog glob (E_impl_MapText k) ∧ NatE (E_impl_MapText k) := ⟨tcons_sound (s_impl_MapText k) (E_impl_mapText_ok k).1, tcons_nat (s_impl_MapText k) (E_impl_mapText_ok k).2⟩
/-- laws.eqIntS -/
def cx_laws_eqIntS : Cx := { N := 26, G := glob, C := tys, ad := fun d => false, wk := false }
def sp_laws_eqIntS_l0 : LSp where
  cv := []
  ts := [(0, .val (.sl (.int .i64))), (1, .val (.sl (.int .i64))), (5, .val (.int .i64))]
  ids := []
  tx := fun e => match e with | .exit i => bif Nat.beq i 0 then [] else [] | .ret => [4] | .normal => []
  ix := fun e => match e with | .exit i => bif Nat.beq i 0 then [] else [] | .ret => [] | .normal => []
def F_laws_eqIntS_l0 (k : Nat) : LArg sp_laws_eqIntS_l0 := fun K n x y => laws_eqIntS_l0 k (K (.exit 0) (mkSt [] [])) (fun (y0 : Bool) => K (.ret) (mkSt [(4, .val .bool y0)] [])) n x.1 x.2.1 x.2.2.1
def LO_laws_eqIntS_l0 (k : Nat) : LTbl := (lcons 4 (ltab sp_laws_eqIntS_l0 (F_laws_eqIntS_l0 k) k) lnil)
theorem lk_laws_eqIntS_l0 (k : Nat) : LoopsOK Tryd.prog glob (E_impl_MapText k) cx_laws_eqIntS (LO_laws_eqIntS_l0 k) ((4, (loopB Tryd.f42 4)) :: []) :=
  LoopsOK.cons (LoopsOK.nil) (E_impl_MapText_ok k).2 (F := F_laws_eqIntS_l0 k) k [] (by kernel_rfl) (by kernel_rfl) (fun K x y => rfl) (fun n x y K => by kernel_rfl)
def F_laws_eqIntS (k : Nat) : FArg (.c (.val (.sl (.int .i64))) (.c (.val (.sl (.int .i64))) .e)) := fun x K => laws_eqIntS k x.1 x.2.1 (fun (r0 : Bool) => K [⟨.bool, r0, true⟩])
theorem s_laws_eqIntS (k : Nat) : SoundF Tryd.prog glob 42 (ftab (.c (.val (.sl (.int .i64))) (.c (.val (.sl (.int .i64))) .e)) (F_laws_eqIntS k)) :=
  fun_ok (cx := cx_laws_eqIntS) (by kernel_rfl) ⟨types, (E_impl_MapText_ok k).1, (E_impl_MapText_ok k).2, mixed, rfl⟩ Tryd.func42 rfl (lk_laws_eqIntS_l0 k) [0] (by kernel_rfl) (fun x K => by kernel_rfl)
def E_laws_eqIntS (k : Nat) : Tbl := tcons 42 (ftab (.c (.val (.sl (.int .i64))) (.c (.val (.sl (.int .i64))) .e)) (F_laws_eqIntS k)) (E_impl_MapText k)
theorem E_laws_eqIntS_ok (k : Nat) : SoundE Tryd.prog glob (E_laws_eqIntS k) ∧ NatE (E_laws_eqIntS k) := ⟨tcons_sound (s_laws_eqIntS k) (E_impl_MapText_ok k).1, tcons_nat (s_laws_eqIntS k) (E_impl_MapText_ok k).2⟩
/-- laws.eqMap -/
def cx_laws_eqMap : Cx := { N := 33, G := glob, C := tys, ad := fun d => false, wk := false }
def F_laws_eqMap (k : Nat) : FArg (.c (.val (.st (.pair (.int .i64) (.pair (.int .i64) (.pair (.sl (.int .i64)) (.pair (.sl (.int .i64)) (.sl (.int .i64)))))))) (.c (.val (.st (.pair (.int .i64) (.pair (.int .i64) (.pair (.sl (.int .i64)) (.pair (.sl (.int .i64)) (.sl (.int .i64)))))))) .e)) := fun x K => laws_eqMap k x.1 x.2.1 (fun (r0 : Bool) => K [⟨.bool, r0, true⟩])
theorem s_laws_eqMap (k : Nat) : SoundF Tryd.prog glob 17 (ftab (.c (.val (.st (.pair (.int .i64) (.pair (.int .i64) (.pair (.sl (.int .i64)) (.pair (.sl (.int .i64)) (.sl (.int .i64)))))))) (.c (.val (.st (.pair (.int .i64) (.pair (.int .i64) (.pair (.sl (.int .i64)) (.pair (.sl (.int .i64)) (.sl (.int .i64)))))))) .e)) (F_laws_eqMap k)) :=
  fun_ok (cx := cx_laws_eqMap) (by kernel_rfl) ⟨types, (E_laws_eqIntS_ok k).1, (E_laws_eqIntS_ok k).2, mixed, rfl⟩ Tryd.func17 rfl (LoopsOK.nil) [] (by kernel_rfl) (fun x K => by kernel_rfl)
def E_laws_eqMap (k : Nat) : Tbl := tcons 17 (ftab (.c (.val (.st (.pair (.int .i64) (.pair (.int .i64) (.pair (.sl (.int .i64)) (.pair (.sl (.int .i64)) (.sl (.int .i64)))))))) (.c (.val (.st (.pair (.int .i64) (.pair (.int .i64) (.pair (.sl (.int .i64)) (.pair (.sl (.int .i64)) (.sl (.int .i64)))))))) .e)) (F_laws_eqMap k)) (E_laws_eqIntS k)
theorem E_laws_eqMap_ok (k : Nat) : SoundE Tryd.prog glob (E_laws_eqMap k) ∧ NatE (E_laws_eqMap k) := ⟨tcons_sound (s_laws_eqMap k) (E_laws_eqIntS_ok k).1, tcons_nat (s_laws_eqMap k) (E_laws_eqIntS_ok k).2⟩
/-- laws.FnExactMapText -/
def cx_laws_FnExactMapText : Cx := { N := 40, G := glob, C := tys, ad := fun d => false, wk := false }
def F_laws_FnExactMapText (k : Nat) : FArg (.c (.val (.st (.pair (.int .i64) (.pair (.int .i64) (.pair (.sl (.int .i64)) (.pair (.sl (.int .i64)) (.sl (.int .i64)))))))) .e) := fun x K => laws_FnExactMapText k x.1 (fun (r0 : Bool) => K [⟨.bool, r0, true⟩])
theorem s_laws_FnExactMapText (k : Nat) : SoundF Tryd.prog glob 13 (ftab (.c (.val (.st (.pair (.int .i64) (.pair (.int .i64) (.pair (.sl (.int .i64)) (.pair (.sl (.int .i64)) (.sl (.int .i64)))))))) .e) (F_laws_FnExactMapText k)) :=
  fun_ok (cx := cx_laws_FnExactMapText) (by kernel_rfl) ⟨types, (E_laws_eqMap_ok k).1, (E_laws_eqMap_ok k).2, mixed, rfl⟩ Tryd.func13 rfl (LoopsOK.nil) [] (by kernel_rfl) (fun x K => by kernel_rfl)
def E_laws_FnExactMapText (k : Nat) : Tbl := tcons 13 (ftab (.c (.val (.st (.pair (.int .i64) (.pair (.int .i64) (.pair (.sl (.int .i64)) (.pair (.sl (.int .i64)) (.sl (.int .i64)))))))) .e) (F_laws_FnExactMapText k)) (E_laws_eqMap k)
theorem E_laws_FnExactMapText_ok (k : Nat) : SoundE Tryd.prog glob (E_laws_FnExactMapText k) ∧ NatE (E_laws_FnExactMapText k) := ⟨tcons_sound (s_laws_FnExactMapText k) (E_laws_eqMap_ok k).1, tcons_nat (s_laws_FnExactMapText k) (E_laws_eqMap_ok k).2⟩
end Go.Proofs.YtllmbnfceffgmaaDoor.TieMapText
