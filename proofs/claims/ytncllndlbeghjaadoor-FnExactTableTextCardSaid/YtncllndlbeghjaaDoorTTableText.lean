import Derived.Test.YtncllndlbeghjaaDoorEv2
import Derived.Test.YtncllndlbeghjaaDoorLgDEKTALBLBM
import Derived.Test.YtncllndlbeghjaaDoorShelf
import Derived.KernelRfl
import Derived.Eval
import Derived.Test.YtncllndlbeghjaaDoorProg
import Derived.Test.YtncllndlbeghjaaDoorChecked
set_option linter.unusedVariables false
set_option linter.unusedSimpArgs false
set_option linter.unusedSectionVars false
set_option linter.unusedVariables false
set_option maxRecDepth 100000
namespace Go.Proofs.YtncllndlbeghjaaDoor.TieTableText
open Go Go.Ev Go.Lg Go.Proofs
def tys : Nat → Option Ty := lookT [(3, (.int .i64)), (4, .bool), (5, (.int .u8)), (9, .str), (22, (.sl (.st (.pair (.int .i64) (.int .i64))))), (23, (.sl (.sl (.int .i64)))), (25, (.st (.pair (.sl (.st (.pair (.int .i64) (.int .i64)))) (.pair (.int .i64) (.sl (.sl (.int .i64))))))), (31, (.sl (.st (.pair (.int .i64) (.int .i64))))), (33, (.st (.pair (.sl (.st (.pair (.int .i64) (.int .i64)))) (.pair (.int .i64) (.sl (.sl (.int .i64))))))), (52, (.sl .str)), (59, (.st (.pair (.int .i64) (.int .i64)))), (60, (.sl (.int .i64))), (103, (.st (.pair (.int .i64) (.int .i64)))), (123, (.sl (.int .u8))), (168, (.arr 20 (.int .u64)))]
def glob : Nat → AV := fun g => bif Nat.beq g 5 then .tab (Lib.pow10Tab.map fun z => Value.int .u64 z) else .bot
theorem types : Types Tryd.prog tys := types_of (by kernel_rfl)
theorem mixed : Tryd.prog.follows .mixedOrders = true := Checked.mixed Tryd.checked
theorem e0 : SoundE Tryd.prog glob tnil ∧ NatE tnil := ⟨tnil_sound, tnil_nat⟩
/-- laws.szOddsS -/
def cx_laws_szOddsS : Cx := { N := 12, G := glob, C := tys, ad := fun d => false, wk := false }
def F_laws_szOddsS (k : Nat) : FArg (.c (.val (.sl (.st (.pair (.int .i64) (.int .i64))))) (.c (.val (.int .i64)) .e)) := fun x K => laws_szOddsS x.1 x.2.1 (fun (r0 : Int) => K [⟨(.int .i64), r0, true⟩])
theorem s_laws_szOddsS (k : Nat) : SoundF Tryd.prog glob 35 (ftab (.c (.val (.sl (.st (.pair (.int .i64) (.int .i64))))) (.c (.val (.int .i64)) .e)) (F_laws_szOddsS k)) :=
  fun_ok (cx := cx_laws_szOddsS) (by kernel_rfl) ⟨types, (e0).1, (e0).2, mixed, rfl⟩ Tryd.func35 rfl (LoopsOK.nil) [] (by kernel_rfl) (fun x K => by kernel_rfl)
def E_laws_szOddsS (k : Nat) : Tbl := tcons 35 (ftab (.c (.val (.sl (.st (.pair (.int .i64) (.int .i64))))) (.c (.val (.int .i64)) .e)) (F_laws_szOddsS k)) (tnil)
theorem E_laws_szOddsS_ok (k : Nat) : SoundE Tryd.prog glob (E_laws_szOddsS k) ∧ NatE (E_laws_szOddsS k) := ⟨tcons_sound (s_laws_szOddsS k) (e0).1, tcons_nat (s_laws_szOddsS k) (e0).2⟩
/-- laws.szIntS -/
def cx_laws_szIntS : Cx := { N := 12, G := glob, C := tys, ad := fun d => false, wk := false }
def F_laws_szIntS (k : Nat) : FArg (.c (.val (.sl (.int .i64))) (.c (.val (.int .i64)) .e)) := fun x K => laws_szIntS x.1 x.2.1 (fun (r0 : Int) => K [⟨(.int .i64), r0, true⟩])
theorem s_laws_szIntS (k : Nat) : SoundF Tryd.prog glob 71 (ftab (.c (.val (.sl (.int .i64))) (.c (.val (.int .i64)) .e)) (F_laws_szIntS k)) :=
  fun_ok (cx := cx_laws_szIntS) (by kernel_rfl) ⟨types, (E_laws_szOddsS_ok k).1, (E_laws_szOddsS_ok k).2, mixed, rfl⟩ Tryd.func71 rfl (LoopsOK.nil) [] (by kernel_rfl) (fun x K => by kernel_rfl)
def E_laws_szIntS (k : Nat) : Tbl := tcons 71 (ftab (.c (.val (.sl (.int .i64))) (.c (.val (.int .i64)) .e)) (F_laws_szIntS k)) (E_laws_szOddsS k)
theorem E_laws_szIntS_ok (k : Nat) : SoundE Tryd.prog glob (E_laws_szIntS k) ∧ NatE (E_laws_szIntS k) := ⟨tcons_sound (s_laws_szIntS k) (E_laws_szOddsS_ok k).1, tcons_nat (s_laws_szIntS k) (E_laws_szOddsS_ok k).2⟩
/-- laws.szIntSS -/
def cx_laws_szIntSS : Cx := { N := 27, G := glob, C := tys, ad := fun d => false, wk := false }
def sp_laws_szIntSS_l0 : LSp where
  cv := []
  ts := [(0, .val (.sl (.sl (.int .i64)))), (1, .val (.int .i64)), (5, .val (.int .i64))]
  ids := []
  tx := fun e => match e with | .exit i => bif Nat.beq i 0 then [1] else [] | .ret => [4] | .normal => []
  ix := fun e => match e with | .exit i => bif Nat.beq i 0 then [] else [] | .ret => [] | .normal => []
def F_laws_szIntSS_l0 (k : Nat) : LArg sp_laws_szIntSS_l0 := fun K n x y => laws_szIntSS_l0 k (fun (y0 : Int) => K (.exit 0) (mkSt [(1, .val (.int .i64) y0)] [])) (fun (y0 : Int) => K (.ret) (mkSt [(4, .val (.int .i64) y0)] [])) n x.1 x.2.1 x.2.2.1
def LO_laws_szIntSS_l0 (k : Nat) : LTbl := (lcons 5 (ltab sp_laws_szIntSS_l0 (F_laws_szIntSS_l0 k) k) lnil)
theorem lk_laws_szIntSS_l0 (k : Nat) : LoopsOK Tryd.prog glob (E_laws_szIntS k) cx_laws_szIntSS (LO_laws_szIntSS_l0 k) ((5, (loopB Tryd.f36 5)) :: []) :=
  LoopsOK.cons (LoopsOK.nil) (E_laws_szIntS_ok k).2 (F := F_laws_szIntSS_l0 k) k [] (by kernel_rfl) (by kernel_rfl) (fun K x y => rfl) (fun n x y K => by kernel_rfl)
def F_laws_szIntSS (k : Nat) : FArg (.c (.val (.sl (.sl (.int .i64)))) (.c (.val (.int .i64)) .e)) := fun x K => laws_szIntSS k x.1 x.2.1 (fun (r0 : Int) => K [⟨(.int .i64), r0, true⟩])
theorem s_laws_szIntSS (k : Nat) : SoundF Tryd.prog glob 36 (ftab (.c (.val (.sl (.sl (.int .i64)))) (.c (.val (.int .i64)) .e)) (F_laws_szIntSS k)) :=
  fun_ok (cx := cx_laws_szIntSS) (by kernel_rfl) ⟨types, (E_laws_szIntS_ok k).1, (E_laws_szIntS_ok k).2, mixed, rfl⟩ Tryd.func36 rfl (lk_laws_szIntSS_l0 k) [0] (by kernel_rfl) (fun x K => by kernel_rfl)
def E_laws_szIntSS (k : Nat) : Tbl := tcons 36 (ftab (.c (.val (.sl (.sl (.int .i64)))) (.c (.val (.int .i64)) .e)) (F_laws_szIntSS k)) (E_laws_szIntS k)
theorem E_laws_szIntSS_ok (k : Nat) : SoundE Tryd.prog glob (E_laws_szIntSS k) ∧ NatE (E_laws_szIntSS k) := ⟨tcons_sound (s_laws_szIntSS k) (E_laws_szIntS_ok k).1, tcons_nat (s_laws_szIntSS k) (E_laws_szIntS_ok k).2⟩
/-- laws.szCombatTable -/
def cx_laws_szCombatTable : Cx := { N := 18, G := glob, C := tys, ad := fun d => false, wk := false }
def F_laws_szCombatTable (k : Nat) : FArg (.c (.val (.st (.pair (.sl (.st (.pair (.int .i64) (.int .i64)))) (.pair (.int .i64) (.sl (.sl (.int .i64))))))) (.c (.val (.int .i64)) .e)) := fun x K => laws_szCombatTable k x.1 x.2.1 (fun (r0 : Int) => K [⟨(.int .i64), r0, true⟩])
theorem s_laws_szCombatTable (k : Nat) : SoundF Tryd.prog glob 12 (ftab (.c (.val (.st (.pair (.sl (.st (.pair (.int .i64) (.int .i64)))) (.pair (.int .i64) (.sl (.sl (.int .i64))))))) (.c (.val (.int .i64)) .e)) (F_laws_szCombatTable k)) :=
  fun_ok (cx := cx_laws_szCombatTable) (by kernel_rfl) ⟨types, (E_laws_szIntSS_ok k).1, (E_laws_szIntSS_ok k).2, mixed, rfl⟩ Tryd.func12 rfl (LoopsOK.nil) [] (by kernel_rfl) (fun x K => by kernel_rfl)
def E_laws_szCombatTable (k : Nat) : Tbl := tcons 12 (ftab (.c (.val (.st (.pair (.sl (.st (.pair (.int .i64) (.int .i64)))) (.pair (.int .i64) (.sl (.sl (.int .i64))))))) (.c (.val (.int .i64)) .e)) (F_laws_szCombatTable k)) (E_laws_szIntSS k)
theorem E_laws_szCombatTable_ok (k : Nat) : SoundE Tryd.prog glob (E_laws_szCombatTable k) ∧ NatE (E_laws_szCombatTable k) := ⟨tcons_sound (s_laws_szCombatTable k) (E_laws_szIntSS_ok k).1, tcons_nat (s_laws_szCombatTable k) (E_laws_szIntSS_ok k).2⟩
/-- laws.toOdds -/
def cx_laws_toOdds : Cx := { N := 11, G := glob, C := tys, ad := fun d => false, wk := false }
def F_laws_toOdds (k : Nat) : FArg (.c (.val (.st (.pair (.int .i64) (.int .i64)))) .e) := fun x K => laws_toOdds x.1 (fun (r0 : Int × Int) => K [⟨(.st (.pair (.int .i64) (.int .i64))), r0, true⟩])
theorem s_laws_toOdds (k : Nat) : SoundF Tryd.prog glob 75 (ftab (.c (.val (.st (.pair (.int .i64) (.int .i64)))) .e) (F_laws_toOdds k)) :=
  fun_ok (cx := cx_laws_toOdds) (by kernel_rfl) ⟨types, (E_laws_szCombatTable_ok k).1, (E_laws_szCombatTable_ok k).2, mixed, rfl⟩ Tryd.func75 rfl (LoopsOK.nil) [] (by kernel_rfl) (fun x K => by kernel_rfl)
def E_laws_toOdds (k : Nat) : Tbl := tcons 75 (ftab (.c (.val (.st (.pair (.int .i64) (.int .i64)))) .e) (F_laws_toOdds k)) (E_laws_szCombatTable k)
theorem E_laws_toOdds_ok (k : Nat) : SoundE Tryd.prog glob (E_laws_toOdds k) ∧ NatE (E_laws_toOdds k) := ⟨tcons_sound (s_laws_toOdds k) (E_laws_szCombatTable_ok k).1, tcons_nat (s_laws_toOdds k) (E_laws_szCombatTable_ok k).2⟩
/-- laws.toOddsS -/
def cx_laws_toOddsS : Cx := { N := 23, G := glob, C := tys, ad := fun d => false, wk := false }
def sp_laws_toOddsS_l0 : LSp where
  cv := []
  ts := [(0, .val (.sl (.st (.pair (.int .i64) (.int .i64))))), (3, .own 7), (4, .val (.int .i64))]
  ids := [(7, .row (.st (.pair (.int .i64) (.int .i64))))]
  tx := fun e => match e with | .exit i => bif Nat.beq i 0 then [3] else [] | .ret => [] | .normal => []
  ix := fun e => match e with | .exit i => bif Nat.beq i 0 then [7] else [] | .ret => [] | .normal => []
def F_laws_toOddsS_l0 (k : Nat) : LArg sp_laws_toOddsS_l0 := fun K n x y => laws_toOddsS_l0 k (fun (y0 : List (Int × Int)) => K (.exit 0) (mkSt [(3, .own 7 1)] [(7, some (.row (.st (.pair (.int .i64) (.int .i64))) y0))])) n x.1 x.2.2.1 y.1
def LO_laws_toOddsS_l0 (k : Nat) : LTbl := (lcons 3 (ltab sp_laws_toOddsS_l0 (F_laws_toOddsS_l0 k) k) lnil)
theorem lk_laws_toOddsS_l0 (k : Nat) : LoopsOK Tryd.prog glob (E_laws_toOdds k) cx_laws_toOddsS (LO_laws_toOddsS_l0 k) ((3, (loopB Tryd.f39 3)) :: []) :=
  LoopsOK.cons (LoopsOK.nil) (E_laws_toOdds_ok k).2 (F := F_laws_toOddsS_l0 k) k [] (by kernel_rfl) (by kernel_rfl) (fun K x y => rfl) (fun n x y K => by kernel_rfl)
def F_laws_toOddsS (k : Nat) : FArg (.c (.val (.sl (.st (.pair (.int .i64) (.int .i64))))) .e) := fun x K => laws_toOddsS k x.1 (fun (r0 : List (Int × Int)) => K [⟨(.sl (.st (.pair (.int .i64) (.int .i64)))), r0, true⟩])
theorem s_laws_toOddsS (k : Nat) : SoundF Tryd.prog glob 39 (ftab (.c (.val (.sl (.st (.pair (.int .i64) (.int .i64))))) .e) (F_laws_toOddsS k)) :=
  fun_ok (cx := cx_laws_toOddsS) (by kernel_rfl) ⟨types, (E_laws_toOdds_ok k).1, (E_laws_toOdds_ok k).2, mixed, rfl⟩ Tryd.func39 rfl (lk_laws_toOddsS_l0 k) [0] (by kernel_rfl) (fun x K => by kernel_rfl)
def E_laws_toOddsS (k : Nat) : Tbl := tcons 39 (ftab (.c (.val (.sl (.st (.pair (.int .i64) (.int .i64))))) .e) (F_laws_toOddsS k)) (E_laws_toOdds k)
theorem E_laws_toOddsS_ok (k : Nat) : SoundE Tryd.prog glob (E_laws_toOddsS k) ∧ NatE (E_laws_toOddsS k) := ⟨tcons_sound (s_laws_toOddsS k) (E_laws_toOdds_ok k).1, tcons_nat (s_laws_toOddsS k) (E_laws_toOdds_ok k).2⟩
/-- laws.toIntS -/
def cx_laws_toIntS : Cx := { N := 22, G := glob, C := tys, ad := fun d => false, wk := false }
def sp_laws_toIntS_l0 : LSp where
  cv := []
  ts := [(0, .val (.sl (.int .i64))), (3, .own 7), (4, .val (.int .i64))]
  ids := [(7, .row (.int .i64))]
  tx := fun e => match e with | .exit i => bif Nat.beq i 0 then [3] else [] | .ret => [] | .normal => []
  ix := fun e => match e with | .exit i => bif Nat.beq i 0 then [7] else [] | .ret => [] | .normal => []
def F_laws_toIntS_l0 (k : Nat) : LArg sp_laws_toIntS_l0 := fun K n x y => laws_toIntS_l0 k (fun (y0 : List Int) => K (.exit 0) (mkSt [(3, .own 7 1)] [(7, some (.row (.int .i64) y0))])) n x.1 x.2.2.1 y.1
def LO_laws_toIntS_l0 (k : Nat) : LTbl := (lcons 3 (ltab sp_laws_toIntS_l0 (F_laws_toIntS_l0 k) k) lnil)
theorem lk_laws_toIntS_l0 (k : Nat) : LoopsOK Tryd.prog glob (E_laws_toOddsS k) cx_laws_toIntS (LO_laws_toIntS_l0 k) ((3, (loopB Tryd.f76 3)) :: []) :=
  LoopsOK.cons (LoopsOK.nil) (E_laws_toOddsS_ok k).2 (F := F_laws_toIntS_l0 k) k [] (by kernel_rfl) (by kernel_rfl) (fun K x y => rfl) (fun n x y K => by kernel_rfl)
def F_laws_toIntS (k : Nat) : FArg (.c (.val (.sl (.int .i64))) .e) := fun x K => laws_toIntS k x.1 (fun (r0 : List Int) => K [⟨(.sl (.int .i64)), r0, true⟩])
theorem s_laws_toIntS (k : Nat) : SoundF Tryd.prog glob 76 (ftab (.c (.val (.sl (.int .i64))) .e) (F_laws_toIntS k)) :=
  fun_ok (cx := cx_laws_toIntS) (by kernel_rfl) ⟨types, (E_laws_toOddsS_ok k).1, (E_laws_toOddsS_ok k).2, mixed, rfl⟩ Tryd.func76 rfl (lk_laws_toIntS_l0 k) [0] (by kernel_rfl) (fun x K => by kernel_rfl)
def E_laws_toIntS (k : Nat) : Tbl := tcons 76 (ftab (.c (.val (.sl (.int .i64))) .e) (F_laws_toIntS k)) (E_laws_toOddsS k)
theorem E_laws_toIntS_ok (k : Nat) : SoundE Tryd.prog glob (E_laws_toIntS k) ∧ NatE (E_laws_toIntS k) := ⟨tcons_sound (s_laws_toIntS k) (E_laws_toOddsS_ok k).1, tcons_nat (s_laws_toIntS k) (E_laws_toOddsS_ok k).2⟩
/-- laws.toIntSS -/
def cx_laws_toIntSS : Cx := { N := 23, G := glob, C := tys, ad := fun d => false, wk := false }
def sp_laws_toIntSS_l0 : LSp where
  cv := []
  ts := [(0, .val (.sl (.sl (.int .i64)))), (3, .own 7), (4, .val (.int .i64))]
  ids := [(7, .row (.sl (.int .i64)))]
  tx := fun e => match e with | .exit i => bif Nat.beq i 0 then [3] else [] | .ret => [] | .normal => []
  ix := fun e => match e with | .exit i => bif Nat.beq i 0 then [7] else [] | .ret => [] | .normal => []
def F_laws_toIntSS_l0 (k : Nat) : LArg sp_laws_toIntSS_l0 := fun K n x y => laws_toIntSS_l0 k (fun (y0 : List (List Int)) => K (.exit 0) (mkSt [(3, .own 7 1)] [(7, some (.row (.sl (.int .i64)) y0))])) n x.1 x.2.2.1 y.1
def LO_laws_toIntSS_l0 (k : Nat) : LTbl := (lcons 3 (ltab sp_laws_toIntSS_l0 (F_laws_toIntSS_l0 k) k) lnil)
theorem lk_laws_toIntSS_l0 (k : Nat) : LoopsOK Tryd.prog glob (E_laws_toIntS k) cx_laws_toIntSS (LO_laws_toIntSS_l0 k) ((3, (loopB Tryd.f40 3)) :: []) :=
  LoopsOK.cons (LoopsOK.nil) (E_laws_toIntS_ok k).2 (F := F_laws_toIntSS_l0 k) k [] (by kernel_rfl) (by kernel_rfl) (fun K x y => rfl) (fun n x y K => by kernel_rfl)
def F_laws_toIntSS (k : Nat) : FArg (.c (.val (.sl (.sl (.int .i64)))) .e) := fun x K => laws_toIntSS k x.1 (fun (r0 : List (List Int)) => K [⟨(.sl (.sl (.int .i64))), r0, false⟩])
theorem s_laws_toIntSS (k : Nat) : SoundF Tryd.prog glob 40 (ftab (.c (.val (.sl (.sl (.int .i64)))) .e) (F_laws_toIntSS k)) :=
  fun_ok (cx := cx_laws_toIntSS) (by kernel_rfl) ⟨types, (E_laws_toIntS_ok k).1, (E_laws_toIntS_ok k).2, mixed, rfl⟩ Tryd.func40 rfl (lk_laws_toIntSS_l0 k) [0] (by kernel_rfl) (fun x K => by kernel_rfl)
def E_laws_toIntSS (k : Nat) : Tbl := tcons 40 (ftab (.c (.val (.sl (.sl (.int .i64)))) .e) (F_laws_toIntSS k)) (E_laws_toIntS k)
theorem E_laws_toIntSS_ok (k : Nat) : SoundE Tryd.prog glob (E_laws_toIntSS k) ∧ NatE (E_laws_toIntSS k) := ⟨tcons_sound (s_laws_toIntSS k) (E_laws_toIntS_ok k).1, tcons_nat (s_laws_toIntSS k) (E_laws_toIntS_ok k).2⟩
/-- laws.toCombatTable -/
def cx_laws_toCombatTable : Cx := { N := 16, G := glob, C := tys, ad := fun d => false, wk := false }
def F_laws_toCombatTable (k : Nat) : FArg (.c (.val (.st (.pair (.sl (.st (.pair (.int .i64) (.int .i64)))) (.pair (.int .i64) (.sl (.sl (.int .i64))))))) .e) := fun x K => laws_toCombatTable k x.1 (fun (r0 : (List (Int × Int)) × Int × List (List Int)) => K [⟨(.st (.pair (.sl (.st (.pair (.int .i64) (.int .i64)))) (.pair (.int .i64) (.sl (.sl (.int .i64)))))), r0, false⟩])
theorem s_laws_toCombatTable (k : Nat) : SoundF Tryd.prog glob 14 (ftab (.c (.val (.st (.pair (.sl (.st (.pair (.int .i64) (.int .i64)))) (.pair (.int .i64) (.sl (.sl (.int .i64))))))) .e) (F_laws_toCombatTable k)) :=
  fun_ok (cx := cx_laws_toCombatTable) (by kernel_rfl) ⟨types, (E_laws_toIntSS_ok k).1, (E_laws_toIntSS_ok k).2, mixed, rfl⟩ Tryd.func14 rfl (LoopsOK.nil) [] (by kernel_rfl) (fun x K => by kernel_rfl)
def E_laws_toCombatTable (k : Nat) : Tbl := tcons 14 (ftab (.c (.val (.st (.pair (.sl (.st (.pair (.int .i64) (.int .i64)))) (.pair (.int .i64) (.sl (.sl (.int .i64))))))) .e) (F_laws_toCombatTable k)) (E_laws_toIntSS k)
theorem E_laws_toCombatTable_ok (k : Nat) : SoundE Tryd.prog glob (E_laws_toCombatTable k) ∧ NatE (E_laws_toCombatTable k) := ⟨tcons_sound (s_laws_toCombatTable k) (E_laws_toIntSS_ok k).1, tcons_nat (s_laws_toCombatTable k) (E_laws_toIntSS_ok k).2⟩
/-- spec.l1In -/
def cx_spec_l1In : Cx := { N := 15, G := glob, C := tys, ad := fun d => false, wk := false }
def F_spec_l1In (k : Nat) : FArg (.c (.val (.int .i64)) (.c (.val (.int .i64)) (.c (.val (.int .i64)) .e))) := fun x K => spec_l1In x.1 x.2.1 x.2.2.1 (fun (r0 : Bool) => K [⟨.bool, r0, true⟩])
theorem s_spec_l1In (k : Nat) : SoundF Tryd.prog glob 44 (ftab (.c (.val (.int .i64)) (.c (.val (.int .i64)) (.c (.val (.int .i64)) .e))) (F_spec_l1In k)) :=
  fun_ok (cx := cx_spec_l1In) (by kernel_rfl) ⟨types, (E_laws_toCombatTable_ok k).1, (E_laws_toCombatTable_ok k).2, mixed, rfl⟩ Tryd.func44 rfl (LoopsOK.nil) [] (by kernel_rfl) (fun x K => by kernel_rfl)
def E_spec_l1In (k : Nat) : Tbl := tcons 44 (ftab (.c (.val (.int .i64)) (.c (.val (.int .i64)) (.c (.val (.int .i64)) .e))) (F_spec_l1In k)) (E_laws_toCombatTable k)
theorem E_spec_l1In_ok (k : Nat) : SoundE Tryd.prog glob (E_spec_l1In k) ∧ NatE (E_spec_l1In k) := ⟨tcons_sound (s_spec_l1In k) (E_laws_toCombatTable_ok k).1, tcons_nat (s_spec_l1In k) (E_laws_toCombatTable_ok k).2⟩
/-- spec.kRows -/
def cx_spec_kRows : Cx := { N := 6, G := glob, C := tys, ad := fun d => false, wk := false }
def F_spec_kRows (k : Nat) : FArg (.c (.val (.int .i64)) .e) := fun x K => spec_kRows x.1 (fun (r0 : Int) => K [⟨(.int .i64), r0, true⟩])
theorem s_spec_kRows (k : Nat) : SoundF Tryd.prog glob 72 (ftab (.c (.val (.int .i64)) .e) (F_spec_kRows k)) :=
  fun_ok (cx := cx_spec_kRows) (by kernel_rfl) ⟨types, (E_spec_l1In_ok k).1, (E_spec_l1In_ok k).2, mixed, rfl⟩ Tryd.func72 rfl (LoopsOK.nil) [] (by kernel_rfl) (fun x K => by kernel_rfl)
def E_spec_kRows (k : Nat) : Tbl := tcons 72 (ftab (.c (.val (.int .i64)) .e) (F_spec_kRows k)) (E_spec_l1In k)
theorem E_spec_kRows_ok (k : Nat) : SoundE Tryd.prog glob (E_spec_kRows k) ∧ NatE (E_spec_kRows k) := ⟨tcons_sound (s_spec_kRows k) (E_spec_l1In_ok k).1, tcons_nat (s_spec_kRows k) (E_spec_l1In_ok k).2⟩
/-- spec.l1All -/
def cx_spec_l1All : Cx := { N := 21, G := glob, C := tys, ad := fun d => false, wk := false }
def sp_spec_l1All_l0 : LSp where
  cv := []
  ts := [(1, .val (.int .i64)), (2, .val (.int .i64)), (9, .val (.sl (.int .i64))), (10, .val (.int .i64)), (11, .val (.int .i64))]
  ids := []
  tx := fun e => match e with | .exit i => bif Nat.beq i 0 then [] else [] | .ret => [6] | .normal => []
  ix := fun e => match e with | .exit i => bif Nat.beq i 0 then [] else [] | .ret => [] | .normal => []
def F_spec_l1All_l0 (k : Nat) : LArg sp_spec_l1All_l0 := fun K n x y => spec_l1All_l0 k (K (.exit 0) (mkSt [] [])) (fun (y0 : Bool) => K (.ret) (mkSt [(6, .val .bool y0)] [])) n x.1 x.2.1 x.2.2.1 x.2.2.2.1 x.2.2.2.2.1
def LO_spec_l1All_l0 (k : Nat) : LTbl := (lcons 2 (ltab sp_spec_l1All_l0 (F_spec_l1All_l0 k) k) lnil)
theorem lk_spec_l1All_l0 (k : Nat) : LoopsOK Tryd.prog glob (E_spec_kRows k) cx_spec_l1All (LO_spec_l1All_l0 k) ((2, (loopB Tryd.f73 2)) :: []) :=
  LoopsOK.cons (LoopsOK.nil) (E_spec_kRows_ok k).2 (F := F_spec_l1All_l0 k) k [] (by kernel_rfl) (by kernel_rfl) (fun K x y => rfl) (fun n x y K => by kernel_rfl)
def F_spec_l1All (k : Nat) : FArg (.c (.val (.sl (.int .i64))) (.c (.val (.int .i64)) (.c (.val (.int .i64)) .e))) := fun x K => spec_l1All k x.1 x.2.1 x.2.2.1 (fun (r0 : Bool) => K [⟨.bool, r0, true⟩])
theorem s_spec_l1All (k : Nat) : SoundF Tryd.prog glob 73 (ftab (.c (.val (.sl (.int .i64))) (.c (.val (.int .i64)) (.c (.val (.int .i64)) .e))) (F_spec_l1All k)) :=
  fun_ok (cx := cx_spec_l1All) (by kernel_rfl) ⟨types, (E_spec_kRows_ok k).1, (E_spec_kRows_ok k).2, mixed, rfl⟩ Tryd.func73 rfl (lk_spec_l1All_l0 k) [0] (by kernel_rfl) (fun x K => by kernel_rfl)
def E_spec_l1All (k : Nat) : Tbl := tcons 73 (ftab (.c (.val (.sl (.int .i64))) (.c (.val (.int .i64)) (.c (.val (.int .i64)) .e))) (F_spec_l1All k)) (E_spec_kRows k)
theorem E_spec_l1All_ok (k : Nat) : SoundE Tryd.prog glob (E_spec_l1All k) ∧ NatE (E_spec_l1All k) := ⟨tcons_sound (s_spec_l1All k) (E_spec_kRows_ok k).1, tcons_nat (s_spec_l1All k) (E_spec_kRows_ok k).2⟩
/-- spec.kGood -/
def cx_spec_kGood : Cx := { N := 90, G := glob, C := tys, ad := fun d => false, wk := false }
def sp_spec_kGood_l0 : LSp where
  cv := []
  ts := [(1, .ptr 1), (28, .val (.sl (.st (.pair (.int .i64) (.int .i64))))), (29, .val (.int .i64)), (30, .val (.int .i64))]
  ids := [(1, .box (.st (.pair (.sl (.st (.pair (.int .i64) (.int .i64)))) (.pair (.int .i64) (.sl (.sl (.int .i64)))))) (.val (.st (.pair (.sl (.st (.pair (.int .i64) (.int .i64)))) (.pair (.int .i64) (.sl (.sl (.int .i64))))))))]
  tx := fun e => match e with | .exit i => bif Nat.beq i 0 then [1] else [] | .ret => [2] | .normal => []
  ix := fun e => match e with | .exit i => bif Nat.beq i 0 then [1] else [] | .ret => [] | .normal => []
def F_spec_kGood_l0 (k : Nat) : LArg sp_spec_kGood_l0 := fun K n x y => spec_kGood_l0 k (fun (y0 : (List (Int × Int)) × Int × List (List Int)) => K (.exit 0) (mkSt [(1, .ptr 1 1 [])] [(1, some (.box (.st (.pair (.sl (.st (.pair (.int .i64) (.int .i64)))) (.pair (.int .i64) (.sl (.sl (.int .i64)))))) (.val (.st (.pair (.sl (.st (.pair (.int .i64) (.int .i64)))) (.pair (.int .i64) (.sl (.sl (.int .i64)))))) y0)))])) (fun (y0 : Bool) => K (.ret) (mkSt [(2, .val .bool y0)] [])) n x.2.1 x.2.2.1 x.2.2.2.1 y.1
def LO_spec_kGood_l0 (k : Nat) : LTbl := (lcons 4 (ltab sp_spec_kGood_l0 (F_spec_kGood_l0 k) k) lnil)
theorem lk_spec_kGood_l0 (k : Nat) : LoopsOK Tryd.prog glob (E_spec_l1All k) cx_spec_kGood (LO_spec_kGood_l0 k) ((4, (loopB Tryd.f37 4)) :: []) :=
  LoopsOK.cons (LoopsOK.nil) (E_spec_l1All_ok k).2 (F := F_spec_kGood_l0 k) k [] (by kernel_rfl) (by kernel_rfl) (fun K x y => rfl) (fun n x y K => by kernel_rfl)
def sp_spec_kGood_l1 : LSp where
  cv := []
  ts := [(1, .ptr 1), (72, .val (.sl (.sl (.int .i64)))), (73, .val (.int .i64)), (74, .val (.int .i64))]
  ids := [(1, .box (.st (.pair (.sl (.st (.pair (.int .i64) (.int .i64)))) (.pair (.int .i64) (.sl (.sl (.int .i64)))))) (.val (.st (.pair (.sl (.st (.pair (.int .i64) (.int .i64)))) (.pair (.int .i64) (.sl (.sl (.int .i64))))))))]
  tx := fun e => match e with | .exit i => bif Nat.beq i 2 then [] else [] | .ret => [2] | .normal => []
  ix := fun e => match e with | .exit i => bif Nat.beq i 2 then [] else [] | .ret => [] | .normal => []
def F_spec_kGood_l1 (k : Nat) : LArg sp_spec_kGood_l1 := fun K n x y => spec_kGood_l1 k (K (.exit 2) (mkSt [] [])) (fun (y0 : Bool) => K (.ret) (mkSt [(2, .val .bool y0)] [])) n x.2.1 x.2.2.1 x.2.2.2.1 y.1
def LO_spec_kGood_l1 (k : Nat) : LTbl := (lcons 12 (ltab sp_spec_kGood_l1 (F_spec_kGood_l1 k) k) (LO_spec_kGood_l0 k))
theorem lk_spec_kGood_l1 (k : Nat) : LoopsOK Tryd.prog glob (E_spec_l1All k) cx_spec_kGood (LO_spec_kGood_l1 k) ((12, (loopB Tryd.f37 12)) :: ((4, (loopB Tryd.f37 4)) :: [])) :=
  LoopsOK.cons (lk_spec_kGood_l0 k) (E_spec_l1All_ok k).2 (F := F_spec_kGood_l1 k) k [] (by kernel_rfl) (by kernel_rfl) (fun K x y => rfl) (fun n x y K => by kernel_rfl)
def F_spec_kGood (k : Nat) : FArg (.c (.val (.st (.pair (.sl (.st (.pair (.int .i64) (.int .i64)))) (.pair (.int .i64) (.sl (.sl (.int .i64))))))) .e) := fun x K => spec_kGood k x.1 (fun (r0 : Bool) => K [⟨.bool, r0, true⟩])
theorem s_spec_kGood (k : Nat) : SoundF Tryd.prog glob 37 (ftab (.c (.val (.st (.pair (.sl (.st (.pair (.int .i64) (.int .i64)))) (.pair (.int .i64) (.sl (.sl (.int .i64))))))) .e) (F_spec_kGood k)) :=
  fun_ok (cx := cx_spec_kGood) (by kernel_rfl) ⟨types, (E_spec_l1All_ok k).1, (E_spec_l1All_ok k).2, mixed, rfl⟩ Tryd.func37 rfl (lk_spec_kGood_l1 k) [1, 0] (by kernel_rfl) (fun x K => by kernel_rfl)
def E_spec_kGood (k : Nat) : Tbl := tcons 37 (ftab (.c (.val (.st (.pair (.sl (.st (.pair (.int .i64) (.int .i64)))) (.pair (.int .i64) (.sl (.sl (.int .i64))))))) .e) (F_spec_kGood k)) (E_spec_l1All k)
theorem E_spec_kGood_ok (k : Nat) : SoundE Tryd.prog glob (E_spec_kGood k) ∧ NatE (E_spec_kGood k) := ⟨tcons_sound (s_spec_kGood k) (E_spec_l1All_ok k).1, tcons_nat (s_spec_kGood k) (E_spec_l1All_ok k).2⟩
/-- spec.l1Num -/
def cx_spec_l1Num : Cx := { N := 20, G := glob, C := tys, ad := fun d => false, wk := false }
def F_spec_l1Num (d : Nat) : FArg (.c (.val (.int .i64)) .e) := fun x K => spec_l1Num d x.1 (fun (r0 : ByteArray) => K [⟨.str, r0, true⟩])
theorem s_spec_l1Num (k : Nat) : SoundF Tryd.prog glob 74 (ftab (.c (.val (.int .i64)) .e) (F_spec_l1Num k)) :=
  rec_ok (cx := cx_spec_l1Num) (by kernel_rfl) ⟨types, (E_spec_kGood_ok k).1, (E_spec_kGood_ok k).2, mixed, rfl⟩ Tryd.func74 rfl (by kernel_rfl) (fun x K => rfl) (fun d x K => by kernel_rfl) k
def E_spec_l1Num (k : Nat) : Tbl := tcons 74 (ftab (.c (.val (.int .i64)) .e) (F_spec_l1Num k)) (E_spec_kGood k)
theorem E_spec_l1Num_ok (k : Nat) : SoundE Tryd.prog glob (E_spec_l1Num k) ∧ NatE (E_spec_l1Num k) := ⟨tcons_sound (s_spec_l1Num k) (E_spec_kGood_ok k).1, tcons_nat (s_spec_l1Num k) (E_spec_kGood_ok k).2⟩
/-- spec.kText -/
def cx_spec_kText : Cx := { N := 58, G := glob, C := tys, ad := fun d => false, wk := false }
def sp_spec_kText_l0 : LSp where
  cv := []
  ts := [(1, .ptr 1), (3, .val .str), (11, .val (.sl (.st (.pair (.int .i64) (.int .i64))))), (12, .val (.int .i64)), (13, .val (.int .i64))]
  ids := [(1, .box (.st (.pair (.sl (.st (.pair (.int .i64) (.int .i64)))) (.pair (.int .i64) (.sl (.sl (.int .i64)))))) (.val (.st (.pair (.sl (.st (.pair (.int .i64) (.int .i64)))) (.pair (.int .i64) (.sl (.sl (.int .i64))))))))]
  tx := fun e => match e with | .exit i => bif Nat.beq i 0 then [1, 3] else [] | .ret => [] | .normal => []
  ix := fun e => match e with | .exit i => bif Nat.beq i 0 then [1] else [] | .ret => [] | .normal => []
def F_spec_kText_l0 (k : Nat) : LArg sp_spec_kText_l0 := fun K n x y => spec_kText_l0 k (fun (y0 : ByteArray) (y1 : (List (Int × Int)) × Int × List (List Int)) => K (.exit 0) (mkSt [(1, .ptr 1 1 []), (3, .val .str y0)] [(1, some (.box (.st (.pair (.sl (.st (.pair (.int .i64) (.int .i64)))) (.pair (.int .i64) (.sl (.sl (.int .i64)))))) (.val (.st (.pair (.sl (.st (.pair (.int .i64) (.int .i64)))) (.pair (.int .i64) (.sl (.sl (.int .i64)))))) y1)))])) n x.2.1 x.2.2.1 x.2.2.2.1 x.2.2.2.2.1 y.1
def LO_spec_kText_l0 (k : Nat) : LTbl := (lcons 3 (ltab sp_spec_kText_l0 (F_spec_kText_l0 k) k) lnil)
theorem lk_spec_kText_l0 (k : Nat) : LoopsOK Tryd.prog glob (E_spec_l1Num k) cx_spec_kText (LO_spec_kText_l0 k) ((3, (loopB Tryd.f38 3)) :: []) :=
  LoopsOK.cons (LoopsOK.nil) (E_spec_l1Num_ok k).2 (F := F_spec_kText_l0 k) k [] (by kernel_rfl) (by kernel_rfl) (fun K x y => rfl) (fun n x y K => by kernel_rfl)
def sp_spec_kText_l1 : LSp where
  cv := []
  ts := [(3, .val .str), (37, .val (.sl (.sl (.int .i64)))), (38, .val (.int .i64)), (39, .val (.int .i64)), (43, .val (.sl (.int .i64))), (44, .val (.int .i64)), (45, .val (.int .i64))]
  ids := []
  tx := fun e => match e with | .exit i => bif Nat.beq i 4 then [3, 37, 38, 39] else [] | .ret => [] | .normal => []
  ix := fun e => match e with | .exit i => bif Nat.beq i 4 then [] else [] | .ret => [] | .normal => []
def F_spec_kText_l1 (k : Nat) : LArg sp_spec_kText_l1 := fun K n x y => spec_kText_l1 k (fun (y0 : ByteArray) (y1 : List (List Int)) (y2 : Int) (y3 : Int) => K (.exit 4) (mkSt [(3, .val .str y0), (37, .val (.sl (.sl (.int .i64))) y1), (38, .val (.int .i64) y2), (39, .val (.int .i64) y3)] [])) n x.1 x.2.1 x.2.2.1 x.2.2.2.1 x.2.2.2.2.1 x.2.2.2.2.2.1 x.2.2.2.2.2.2.1
def LO_spec_kText_l1 (k : Nat) : LTbl := (lcons 12 (ltab sp_spec_kText_l1 (F_spec_kText_l1 k) k) (LO_spec_kText_l0 k))
theorem lk_spec_kText_l1 (k : Nat) : LoopsOK Tryd.prog glob (E_spec_l1Num k) cx_spec_kText (LO_spec_kText_l1 k) ((12, (loopB Tryd.f38 12)) :: ((3, (loopB Tryd.f38 3)) :: [])) :=
  LoopsOK.cons (lk_spec_kText_l0 k) (E_spec_l1Num_ok k).2 (F := F_spec_kText_l1 k) k [] (by kernel_rfl) (by kernel_rfl) (fun K x y => rfl) (fun n x y K => by kernel_rfl)
def sp_spec_kText_l2 : LSp where
  cv := []
  ts := [(3, .val .str), (37, .val (.sl (.sl (.int .i64)))), (38, .val (.int .i64)), (39, .val (.int .i64))]
  ids := []
  tx := fun e => match e with | .exit i => bif Nat.beq i 2 then [3] else [] | .ret => [] | .normal => []
  ix := fun e => match e with | .exit i => bif Nat.beq i 2 then [] else [] | .ret => [] | .normal => []
def F_spec_kText_l2 (k : Nat) : LArg sp_spec_kText_l2 := fun K n x y => spec_kText_l2 k (fun (y0 : ByteArray) => K (.exit 2) (mkSt [(3, .val .str y0)] [])) n x.1 x.2.1 x.2.2.1 x.2.2.2.1
def LO_spec_kText_l2 (k : Nat) : LTbl := (lcons 9 (ltab sp_spec_kText_l2 (F_spec_kText_l2 k) k) (LO_spec_kText_l1 k))
theorem lk_spec_kText_l2 (k : Nat) : LoopsOK Tryd.prog glob (E_spec_l1Num k) cx_spec_kText (LO_spec_kText_l2 k) ((9, (loopB Tryd.f38 9)) :: ((12, (loopB Tryd.f38 12)) :: ((3, (loopB Tryd.f38 3)) :: []))) :=
  LoopsOK.cons (lk_spec_kText_l1 k) (E_spec_l1Num_ok k).2 (F := F_spec_kText_l2 k) k [0] (by kernel_rfl) (by kernel_rfl) (fun K x y => rfl) (fun n x y K => by kernel_rfl)
def F_spec_kText (k : Nat) : FArg (.c (.val (.st (.pair (.sl (.st (.pair (.int .i64) (.int .i64)))) (.pair (.int .i64) (.sl (.sl (.int .i64))))))) .e) := fun x K => spec_kText k x.1 (fun (r0 : ByteArray) => K [⟨.str, r0, true⟩])
theorem s_spec_kText (k : Nat) : SoundF Tryd.prog glob 38 (ftab (.c (.val (.st (.pair (.sl (.st (.pair (.int .i64) (.int .i64)))) (.pair (.int .i64) (.sl (.sl (.int .i64))))))) .e) (F_spec_kText k)) :=
  fun_ok (cx := cx_spec_kText) (by kernel_rfl) ⟨types, (E_spec_l1Num_ok k).1, (E_spec_l1Num_ok k).2, mixed, rfl⟩ Tryd.func38 rfl (lk_spec_kText_l2 k) [2, 0] (by kernel_rfl) (fun x K => by kernel_rfl)
def E_spec_kText (k : Nat) : Tbl := tcons 38 (ftab (.c (.val (.st (.pair (.sl (.st (.pair (.int .i64) (.int .i64)))) (.pair (.int .i64) (.sl (.sl (.int .i64))))))) .e) (F_spec_kText k)) (E_spec_l1Num k)
theorem E_spec_kText_ok (k : Nat) : SoundE Tryd.prog glob (E_spec_kText k) ∧ NatE (E_spec_kText k) := ⟨tcons_sound (s_spec_kText k) (E_spec_l1Num_ok k).1, tcons_nat (s_spec_kText k) (E_spec_l1Num_ok k).2⟩
/-- spec.TableText -/
def cx_spec_TableText : Cx := { N := 9, G := glob, C := tys, ad := fun d => false, wk := false }
def F_spec_TableText (k : Nat) : FArg (.c (.val (.st (.pair (.sl (.st (.pair (.int .i64) (.int .i64)))) (.pair (.int .i64) (.sl (.sl (.int .i64))))))) .e) := fun x K => spec_TableText k x.1 (fun (r0 : ByteArray) (r1 : Bool) => K [⟨.str, r0, true⟩, ⟨.bool, r1, true⟩])
theorem s_spec_TableText (k : Nat) : SoundF Tryd.prog glob 13 (ftab (.c (.val (.st (.pair (.sl (.st (.pair (.int .i64) (.int .i64)))) (.pair (.int .i64) (.sl (.sl (.int .i64))))))) .e) (F_spec_TableText k)) :=
  fun_ok (cx := cx_spec_TableText) (by kernel_rfl) ⟨types, (E_spec_kText_ok k).1, (E_spec_kText_ok k).2, mixed, rfl⟩ Tryd.func13 rfl (LoopsOK.nil) [] (by kernel_rfl) (fun x K => by kernel_rfl)
def E_spec_TableText (k : Nat) : Tbl := tcons 13 (ftab (.c (.val (.st (.pair (.sl (.st (.pair (.int .i64) (.int .i64)))) (.pair (.int .i64) (.sl (.sl (.int .i64))))))) .e) (F_spec_TableText k)) (E_spec_kText k)
theorem E_spec_TableText_ok (k : Nat) : SoundE Tryd.prog glob (E_spec_TableText k) ∧ NatE (E_spec_TableText k) := ⟨tcons_sound (s_spec_TableText k) (E_spec_kText_ok k).1, tcons_nat (s_spec_TableText k) (E_spec_kText_ok k).2⟩
/-- impl.inRange -/
def cx_impl_inRange : Cx := { N := 15, G := glob, C := tys, ad := fun d => false, wk := false }
def F_impl_inRange (k : Nat) : FArg (.c (.val (.int .i64)) (.c (.val (.int .i64)) (.c (.val (.int .i64)) .e))) := fun x K => impl_inRange x.1 x.2.1 x.2.2.1 (fun (r0 : Bool) => K [⟨.bool, r0, true⟩])
theorem s_impl_inRange (k : Nat) : SoundF Tryd.prog glob 62 (ftab (.c (.val (.int .i64)) (.c (.val (.int .i64)) (.c (.val (.int .i64)) .e))) (F_impl_inRange k)) :=
  fun_ok (cx := cx_impl_inRange) (by kernel_rfl) ⟨types, (E_spec_TableText_ok k).1, (E_spec_TableText_ok k).2, mixed, rfl⟩ Tryd.func62 rfl (LoopsOK.nil) [] (by kernel_rfl) (fun x K => by kernel_rfl)
def E_impl_inRange (k : Nat) : Tbl := tcons 62 (ftab (.c (.val (.int .i64)) (.c (.val (.int .i64)) (.c (.val (.int .i64)) .e))) (F_impl_inRange k)) (E_spec_TableText k)
theorem E_impl_inRange_ok (k : Nat) : SoundE Tryd.prog glob (E_impl_inRange k) ∧ NatE (E_impl_inRange k) := ⟨tcons_sound (s_impl_inRange k) (E_spec_TableText_ok k).1, tcons_nat (s_impl_inRange k) (E_spec_TableText_ok k).2⟩
/-- impl.isResult -/
def cx_impl_isResult : Cx := { N := 5, G := glob, C := tys, ad := fun d => false, wk := false }
def F_impl_isResult (k : Nat) : FArg (.c (.val (.int .i64)) .e) := fun x K => impl_isResult x.1 (fun (r0 : Bool) => K [⟨.bool, r0, true⟩])
theorem s_impl_isResult (k : Nat) : SoundF Tryd.prog glob 65 (ftab (.c (.val (.int .i64)) .e) (F_impl_isResult k)) :=
  fun_ok (cx := cx_impl_isResult) (by kernel_rfl) ⟨types, (E_impl_inRange_ok k).1, (E_impl_inRange_ok k).2, mixed, rfl⟩ Tryd.func65 rfl (LoopsOK.nil) [] (by kernel_rfl) (fun x K => by kernel_rfl)
def E_impl_isResult (k : Nat) : Tbl := tcons 65 (ftab (.c (.val (.int .i64)) .e) (F_impl_isResult k)) (E_impl_inRange k)
theorem E_impl_isResult_ok (k : Nat) : SoundE Tryd.prog glob (E_impl_isResult k) ∧ NatE (E_impl_isResult k) := ⟨tcons_sound (s_impl_isResult k) (E_impl_inRange_ok k).1, tcons_nat (s_impl_isResult k) (E_impl_inRange_ok k).2⟩
/-- impl.IsCombatTable$1 -/
def cx_impl_IsCombatTable_1 : Cx := { N := 6, G := glob, C := tys, ad := fun d => false, wk := false }
def F_impl_IsCombatTable_1 (k : Nat) : FArg (.c (.val (.int .i64)) .e) := fun x K => impl_IsCombatTable_1 x.1 (fun (r0 : Bool) => K [⟨.bool, r0, true⟩])
theorem s_impl_IsCombatTable_1 (k : Nat) : SoundF Tryd.prog glob 64 (ftab (.c (.val (.int .i64)) .e) (F_impl_IsCombatTable_1 k)) :=
  fun_ok (cx := cx_impl_IsCombatTable_1) (by kernel_rfl) ⟨types, (E_impl_isResult_ok k).1, (E_impl_isResult_ok k).2, mixed, rfl⟩ Tryd.func64 rfl (LoopsOK.nil) [] (by kernel_rfl) (fun x K => by kernel_rfl)
def E_impl_IsCombatTable_1 (k : Nat) : Tbl := tcons 64 (ftab (.c (.val (.int .i64)) .e) (F_impl_IsCombatTable_1 k)) (E_impl_isResult k)
theorem E_impl_IsCombatTable_1_ok (k : Nat) : SoundE Tryd.prog glob (E_impl_IsCombatTable_1 k) ∧ NatE (E_impl_IsCombatTable_1 k) := ⟨tcons_sound (s_impl_IsCombatTable_1 k) (E_impl_isResult_ok k).1, tcons_nat (s_impl_IsCombatTable_1 k) (E_impl_isResult_ok k).2⟩
/-- slices.IndexFunc[[]int,int] -/
def cx_slices_IndexFunc_Sint_int__impl_IsCombatTable_1 : Cx := { N := 19, G := glob, C := tys, ad := fun d => false, wk := false }
def sp_slices_IndexFunc_Sint_int__impl_IsCombatTable_1_l0 : LSp where
  cv := []
  ts := [(0, .val (.sl (.int .i64))), (1, .fn 64 .e), (7, .val (.int .i64)), (8, .val (.int .i64))]
  ids := []
  tx := fun e => match e with | .exit i => bif Nat.beq i 0 then [] else [] | .ret => [4] | .normal => []
  ix := fun e => match e with | .exit i => bif Nat.beq i 0 then [] else [] | .ret => [] | .normal => []
def F_slices_IndexFunc_Sint_int__impl_IsCombatTable_1_l0 (k : Nat) : LArg sp_slices_IndexFunc_Sint_int__impl_IsCombatTable_1_l0 := fun K n x y => slices_IndexFunc_Sint_int__impl_IsCombatTable_1_l0 k (K (.exit 0) (mkSt [] [])) (fun (y0 : Int) => K (.ret) (mkSt [(4, .val (.int .i64) y0)] [])) n x.1 x.2.2.1 x.2.2.2.1
def LO_slices_IndexFunc_Sint_int__impl_IsCombatTable_1_l0 (k : Nat) : LTbl := (lcons 2 (ltab sp_slices_IndexFunc_Sint_int__impl_IsCombatTable_1_l0 (F_slices_IndexFunc_Sint_int__impl_IsCombatTable_1_l0 k) k) lnil)
theorem lk_slices_IndexFunc_Sint_int__impl_IsCombatTable_1_l0 (k : Nat) : LoopsOK Tryd.prog glob (E_impl_IsCombatTable_1 k) cx_slices_IndexFunc_Sint_int__impl_IsCombatTable_1 (LO_slices_IndexFunc_Sint_int__impl_IsCombatTable_1_l0 k) ((2, (loopB Tryd.f99 2)) :: []) :=
  LoopsOK.cons (LoopsOK.nil) (E_impl_IsCombatTable_1_ok k).2 (F := F_slices_IndexFunc_Sint_int__impl_IsCombatTable_1_l0 k) k [] (by kernel_rfl) (by kernel_rfl) (fun K x y => rfl) (fun n x y K => by kernel_rfl)
def F_slices_IndexFunc_Sint_int__impl_IsCombatTable_1 (k : Nat) : FArg (.c (.val (.sl (.int .i64))) (.c (.fn 64 .e) .e)) := fun x K => slices_IndexFunc_Sint_int__impl_IsCombatTable_1 k x.1 (fun (r0 : Int) => K [⟨(.int .i64), r0, true⟩])
theorem s_slices_IndexFunc_Sint_int__impl_IsCombatTable_1 (k : Nat) : SoundF Tryd.prog glob 99 (ftab (.c (.val (.sl (.int .i64))) (.c (.fn 64 .e) .e)) (F_slices_IndexFunc_Sint_int__impl_IsCombatTable_1 k)) :=
  fun_ok (cx := cx_slices_IndexFunc_Sint_int__impl_IsCombatTable_1) (by kernel_rfl) ⟨types, (E_impl_IsCombatTable_1_ok k).1, (E_impl_IsCombatTable_1_ok k).2, mixed, rfl⟩ Tryd.func99 rfl (lk_slices_IndexFunc_Sint_int__impl_IsCombatTable_1_l0 k) [0] (by kernel_rfl) (fun x K => by kernel_rfl)
def E_slices_IndexFunc_Sint_int__impl_IsCombatTable_1 (k : Nat) : Tbl := tcons 99 (ftab (.c (.val (.sl (.int .i64))) (.c (.fn 64 .e) .e)) (F_slices_IndexFunc_Sint_int__impl_IsCombatTable_1 k)) (E_impl_IsCombatTable_1 k)
theorem E_slices_IndexFunc_Sint_int__impl_IsCombatTable_1_ok (k : Nat) : SoundE Tryd.prog glob (E_slices_IndexFunc_Sint_int__impl_IsCombatTable_1 k) ∧ NatE (E_slices_IndexFunc_Sint_int__impl_IsCombatTable_1 k) := ⟨tcons_sound (s_slices_IndexFunc_Sint_int__impl_IsCombatTable_1 k) (E_impl_IsCombatTable_1_ok k).1, tcons_nat (s_slices_IndexFunc_Sint_int__impl_IsCombatTable_1 k) (E_impl_IsCombatTable_1_ok k).2⟩
/-- slices.ContainsFunc[[]int,int] -/
def cx_slices_ContainsFunc_Sint_int__impl_IsCombatTable_1 : Cx := { N := 9, G := glob, C := tys, ad := fun d => false, wk := false }
def F_slices_ContainsFunc_Sint_int__impl_IsCombatTable_1 (k : Nat) : FArg (.c (.val (.sl (.int .i64))) (.c (.fn 64 .e) .e)) := fun x K => slices_ContainsFunc_Sint_int__impl_IsCombatTable_1 k x.1 (fun (r0 : Bool) => K [⟨.bool, r0, true⟩])
theorem s_slices_ContainsFunc_Sint_int__impl_IsCombatTable_1 (k : Nat) : SoundF Tryd.prog glob 63 (ftab (.c (.val (.sl (.int .i64))) (.c (.fn 64 .e) .e)) (F_slices_ContainsFunc_Sint_int__impl_IsCombatTable_1 k)) :=
  fun_ok (cx := cx_slices_ContainsFunc_Sint_int__impl_IsCombatTable_1) (by kernel_rfl) ⟨types, (E_slices_IndexFunc_Sint_int__impl_IsCombatTable_1_ok k).1, (E_slices_IndexFunc_Sint_int__impl_IsCombatTable_1_ok k).2, mixed, rfl⟩ Tryd.func63 rfl (LoopsOK.nil) [] (by kernel_rfl) (fun x K => by kernel_rfl)
def E_slices_ContainsFunc_Sint_int__impl_IsCombatTable_1 (k : Nat) : Tbl := tcons 63 (ftab (.c (.val (.sl (.int .i64))) (.c (.fn 64 .e) .e)) (F_slices_ContainsFunc_Sint_int__impl_IsCombatTable_1 k)) (E_slices_IndexFunc_Sint_int__impl_IsCombatTable_1 k)
theorem E_slices_ContainsFunc_Sint_int__impl_IsCombatTable_1_ok (k : Nat) : SoundE Tryd.prog glob (E_slices_ContainsFunc_Sint_int__impl_IsCombatTable_1 k) ∧ NatE (E_slices_ContainsFunc_Sint_int__impl_IsCombatTable_1 k) := ⟨tcons_sound (s_slices_ContainsFunc_Sint_int__impl_IsCombatTable_1 k) (E_slices_IndexFunc_Sint_int__impl_IsCombatTable_1_ok k).1, tcons_nat (s_slices_ContainsFunc_Sint_int__impl_IsCombatTable_1 k) (E_slices_IndexFunc_Sint_int__impl_IsCombatTable_1_ok k).2⟩
/-- impl.IsCombatTable -/
def cx_impl_IsCombatTable : Cx := { N := 90, G := glob, C := tys, ad := fun d => false, wk := false }
def sp_impl_IsCombatTable_l0 : LSp where
  cv := []
  ts := [(1, .ptr 1), (29, .val (.sl (.st (.pair (.int .i64) (.int .i64))))), (30, .val (.int .i64)), (31, .val (.int .i64))]
  ids := [(1, .box (.st (.pair (.sl (.st (.pair (.int .i64) (.int .i64)))) (.pair (.int .i64) (.sl (.sl (.int .i64)))))) (.val (.st (.pair (.sl (.st (.pair (.int .i64) (.int .i64)))) (.pair (.int .i64) (.sl (.sl (.int .i64))))))))]
  tx := fun e => match e with | .exit i => bif Nat.beq i 0 then [1] else [] | .ret => [2] | .normal => []
  ix := fun e => match e with | .exit i => bif Nat.beq i 0 then [1] else [] | .ret => [] | .normal => []
def F_impl_IsCombatTable_l0 (k : Nat) : LArg sp_impl_IsCombatTable_l0 := fun K n x y => impl_IsCombatTable_l0 k (fun (y0 : (List (Int × Int)) × Int × List (List Int)) => K (.exit 0) (mkSt [(1, .ptr 1 1 [])] [(1, some (.box (.st (.pair (.sl (.st (.pair (.int .i64) (.int .i64)))) (.pair (.int .i64) (.sl (.sl (.int .i64)))))) (.val (.st (.pair (.sl (.st (.pair (.int .i64) (.int .i64)))) (.pair (.int .i64) (.sl (.sl (.int .i64)))))) y0)))])) (fun (y0 : Bool) => K (.ret) (mkSt [(2, .val .bool y0)] [])) n x.2.1 x.2.2.1 x.2.2.2.1 y.1
def LO_impl_IsCombatTable_l0 (k : Nat) : LTbl := (lcons 4 (ltab sp_impl_IsCombatTable_l0 (F_impl_IsCombatTable_l0 k) k) lnil)
theorem lk_impl_IsCombatTable_l0 (k : Nat) : LoopsOK Tryd.prog glob (E_slices_ContainsFunc_Sint_int__impl_IsCombatTable_1 k) cx_impl_IsCombatTable (LO_impl_IsCombatTable_l0 k) ((4, (loopB Tryd.f27 4)) :: []) :=
  LoopsOK.cons (LoopsOK.nil) (E_slices_ContainsFunc_Sint_int__impl_IsCombatTable_1_ok k).2 (F := F_impl_IsCombatTable_l0 k) k [] (by kernel_rfl) (by kernel_rfl) (fun K x y => rfl) (fun n x y K => by kernel_rfl)
def sp_impl_IsCombatTable_l1 : LSp where
  cv := []
  ts := [(1, .ptr 1), (73, .val (.sl (.sl (.int .i64)))), (74, .val (.int .i64)), (75, .val (.int .i64))]
  ids := [(1, .box (.st (.pair (.sl (.st (.pair (.int .i64) (.int .i64)))) (.pair (.int .i64) (.sl (.sl (.int .i64)))))) (.val (.st (.pair (.sl (.st (.pair (.int .i64) (.int .i64)))) (.pair (.int .i64) (.sl (.sl (.int .i64))))))))]
  tx := fun e => match e with | .exit i => bif Nat.beq i 2 then [] else [] | .ret => [2] | .normal => []
  ix := fun e => match e with | .exit i => bif Nat.beq i 2 then [] else [] | .ret => [] | .normal => []
def F_impl_IsCombatTable_l1 (k : Nat) : LArg sp_impl_IsCombatTable_l1 := fun K n x y => impl_IsCombatTable_l1 k (K (.exit 2) (mkSt [] [])) (fun (y0 : Bool) => K (.ret) (mkSt [(2, .val .bool y0)] [])) n x.2.1 x.2.2.1 x.2.2.2.1 y.1
def LO_impl_IsCombatTable_l1 (k : Nat) : LTbl := (lcons 12 (ltab sp_impl_IsCombatTable_l1 (F_impl_IsCombatTable_l1 k) k) (LO_impl_IsCombatTable_l0 k))
theorem lk_impl_IsCombatTable_l1 (k : Nat) : LoopsOK Tryd.prog glob (E_slices_ContainsFunc_Sint_int__impl_IsCombatTable_1 k) cx_impl_IsCombatTable (LO_impl_IsCombatTable_l1 k) ((12, (loopB Tryd.f27 12)) :: ((4, (loopB Tryd.f27 4)) :: [])) :=
  LoopsOK.cons (lk_impl_IsCombatTable_l0 k) (E_slices_ContainsFunc_Sint_int__impl_IsCombatTable_1_ok k).2 (F := F_impl_IsCombatTable_l1 k) k [] (by kernel_rfl) (by kernel_rfl) (fun K x y => rfl) (fun n x y K => by kernel_rfl)
def F_impl_IsCombatTable (k : Nat) : FArg (.c (.val (.st (.pair (.sl (.st (.pair (.int .i64) (.int .i64)))) (.pair (.int .i64) (.sl (.sl (.int .i64))))))) .e) := fun x K => impl_IsCombatTable k x.1 (fun (r0 : Bool) => K [⟨.bool, r0, true⟩])
theorem s_impl_IsCombatTable (k : Nat) : SoundF Tryd.prog glob 27 (ftab (.c (.val (.st (.pair (.sl (.st (.pair (.int .i64) (.int .i64)))) (.pair (.int .i64) (.sl (.sl (.int .i64))))))) .e) (F_impl_IsCombatTable k)) :=
  fun_ok (cx := cx_impl_IsCombatTable) (by kernel_rfl) ⟨types, (E_slices_ContainsFunc_Sint_int__impl_IsCombatTable_1_ok k).1, (E_slices_ContainsFunc_Sint_int__impl_IsCombatTable_1_ok k).2, mixed, rfl⟩ Tryd.func27 rfl (lk_impl_IsCombatTable_l1 k) [1, 0] (by kernel_rfl) (fun x K => by kernel_rfl)
def E_impl_IsCombatTable (k : Nat) : Tbl := tcons 27 (ftab (.c (.val (.st (.pair (.sl (.st (.pair (.int .i64) (.int .i64)))) (.pair (.int .i64) (.sl (.sl (.int .i64))))))) .e) (F_impl_IsCombatTable k)) (E_slices_ContainsFunc_Sint_int__impl_IsCombatTable_1 k)
theorem E_impl_IsCombatTable_ok (k : Nat) : SoundE Tryd.prog glob (E_impl_IsCombatTable k) ∧ NatE (E_impl_IsCombatTable k) := ⟨tcons_sound (s_impl_IsCombatTable k) (E_slices_ContainsFunc_Sint_int__impl_IsCombatTable_1_ok k).1, tcons_nat (s_impl_IsCombatTable k) (E_slices_ContainsFunc_Sint_int__impl_IsCombatTable_1_ok k).2⟩
/-- strconv.Itoa -/
def F_strconv_Itoa (k : Nat) : FArg (.c (.val (.int .i64)) .e) := fun x K => strconv_Itoa x.1 fun r => K [⟨.str, r, true⟩]
theorem s_strconv_Itoa (k : Nat) : SoundF Tryd.prog glob 61 (ftab (.c (.val (.int .i64)) .e) (F_strconv_Itoa k)) := itoa_sound (g := 5) (by kernel_rfl) (by kernel_rfl) rfl (fun n h0 h1 w ht => Tryd.strconv_Itoa n h0 h1 w ht)
def E_strconv_Itoa (k : Nat) : Tbl := tcons 61 (ftab (.c (.val (.int .i64)) .e) (F_strconv_Itoa k)) (E_impl_IsCombatTable k)
theorem E_strconv_Itoa_ok (k : Nat) : SoundE Tryd.prog glob (E_strconv_Itoa k) ∧ NatE (E_strconv_Itoa k) := ⟨tcons_sound (s_strconv_Itoa k) (E_impl_IsCombatTable_ok k).1, tcons_nat (s_strconv_Itoa k) (E_impl_IsCombatTable_ok k).2⟩
/-- strings.Join -/
def F_strings_Join (k : Nat) : FArg (.c (.val (.sl .str)) (.c (.val .str) .e)) := fun x K => strings_Join x.1 x.2.1 fun r => K [⟨.str, r, true⟩]
theorem s_strings_Join (k : Nat) : SoundF Tryd.prog glob 100 (ftab (.c (.val (.sl .str)) (.c (.val .str) .e)) (F_strings_Join k)) := join_sound (by kernel_rfl) (fun a c sep w => Tryd.strings_Join_none a c sep w) (fun bk o c xs sep w h1 h2 h3 h4 h5 => Tryd.strings_Join bk o c xs sep w h1 h2 h3 h4 h5)
def E_strings_Join (k : Nat) : Tbl := tcons 100 (ftab (.c (.val (.sl .str)) (.c (.val .str) .e)) (F_strings_Join k)) (E_strconv_Itoa k)
theorem E_strings_Join_ok (k : Nat) : SoundE Tryd.prog glob (E_strings_Join k) ∧ NatE (E_strings_Join k) := ⟨tcons_sound (s_strings_Join k) (E_strconv_Itoa_ok k).1, tcons_nat (s_strings_Join k) (E_strconv_Itoa_ok k).2⟩
/-- impl.wordsText -/
def cx_impl_wordsText : Cx := { N := 24, G := glob, C := tys, ad := fun d => false, wk := false }
def sp_impl_wordsText_l0 : LSp where
  cv := []
  ts := [(5, .own 9), (10, .val (.sl (.int .i64))), (11, .val (.int .i64)), (12, .val (.int .i64))]
  ids := [(9, .row .str)]
  tx := fun e => match e with | .exit i => bif Nat.beq i 0 then [5] else [] | .ret => [] | .normal => []
  ix := fun e => match e with | .exit i => bif Nat.beq i 0 then [9] else [] | .ret => [] | .normal => []
def F_impl_wordsText_l0 (k : Nat) : LArg sp_impl_wordsText_l0 := fun K n x y => impl_wordsText_l0 k (fun (y0 : List ByteArray) => K (.exit 0) (mkSt [(5, .own 9 1)] [(9, some (.row .str y0))])) n x.2.1 x.2.2.1 x.2.2.2.1 y.1
def LO_impl_wordsText_l0 (k : Nat) : LTbl := (lcons 3 (ltab sp_impl_wordsText_l0 (F_impl_wordsText_l0 k) k) lnil)
theorem lk_impl_wordsText_l0 (k : Nat) : LoopsOK Tryd.prog glob (E_strings_Join k) cx_impl_wordsText (LO_impl_wordsText_l0 k) ((3, (loopB Tryd.f66 3)) :: []) :=
  LoopsOK.cons (LoopsOK.nil) (E_strings_Join_ok k).2 (F := F_impl_wordsText_l0 k) k [] (by kernel_rfl) (by kernel_rfl) (fun K x y => rfl) (fun n x y K => by kernel_rfl)
def F_impl_wordsText (k : Nat) : FArg (.c (.val .str) (.c (.val (.sl (.int .i64))) .e)) := fun x K => impl_wordsText k x.1 x.2.1 (fun (r0 : ByteArray) => K [⟨.str, r0, true⟩])
theorem s_impl_wordsText (k : Nat) : SoundF Tryd.prog glob 66 (ftab (.c (.val .str) (.c (.val (.sl (.int .i64))) .e)) (F_impl_wordsText k)) :=
  fun_ok (cx := cx_impl_wordsText) (by kernel_rfl) ⟨types, (E_strings_Join_ok k).1, (E_strings_Join_ok k).2, mixed, rfl⟩ Tryd.func66 rfl (lk_impl_wordsText_l0 k) [0] (by kernel_rfl) (fun x K => by kernel_rfl)
def E_impl_wordsText (k : Nat) : Tbl := tcons 66 (ftab (.c (.val .str) (.c (.val (.sl (.int .i64))) .e)) (F_impl_wordsText k)) (E_strings_Join k)
theorem E_impl_wordsText_ok (k : Nat) : SoundE Tryd.prog glob (E_impl_wordsText k) ∧ NatE (E_impl_wordsText k) := ⟨tcons_sound (s_impl_wordsText k) (E_strings_Join_ok k).1, tcons_nat (s_impl_wordsText k) (E_strings_Join_ok k).2⟩
/-- impl.tableText -/
def cx_impl_tableText : Cx := { N := 58, G := glob, C := tys, ad := fun d => false, wk := false }
def sp_impl_tableText_l0 : LSp where
  cv := []
  ts := [(1, .ptr 1), (3, .val .str), (11, .val (.sl (.st (.pair (.int .i64) (.int .i64))))), (12, .val (.int .i64)), (13, .val (.int .i64))]
  ids := [(1, .box (.st (.pair (.sl (.st (.pair (.int .i64) (.int .i64)))) (.pair (.int .i64) (.sl (.sl (.int .i64)))))) (.val (.st (.pair (.sl (.st (.pair (.int .i64) (.int .i64)))) (.pair (.int .i64) (.sl (.sl (.int .i64))))))))]
  tx := fun e => match e with | .exit i => bif Nat.beq i 0 then [1, 3] else [] | .ret => [] | .normal => []
  ix := fun e => match e with | .exit i => bif Nat.beq i 0 then [1] else [] | .ret => [] | .normal => []
def F_impl_tableText_l0 (k : Nat) : LArg sp_impl_tableText_l0 := fun K n x y => impl_tableText_l0 k (fun (y0 : ByteArray) (y1 : (List (Int × Int)) × Int × List (List Int)) => K (.exit 0) (mkSt [(1, .ptr 1 1 []), (3, .val .str y0)] [(1, some (.box (.st (.pair (.sl (.st (.pair (.int .i64) (.int .i64)))) (.pair (.int .i64) (.sl (.sl (.int .i64)))))) (.val (.st (.pair (.sl (.st (.pair (.int .i64) (.int .i64)))) (.pair (.int .i64) (.sl (.sl (.int .i64)))))) y1)))])) n x.2.1 x.2.2.1 x.2.2.2.1 x.2.2.2.2.1 y.1
def LO_impl_tableText_l0 (k : Nat) : LTbl := (lcons 3 (ltab sp_impl_tableText_l0 (F_impl_tableText_l0 k) k) lnil)
theorem lk_impl_tableText_l0 (k : Nat) : LoopsOK Tryd.prog glob (E_impl_wordsText k) cx_impl_tableText (LO_impl_tableText_l0 k) ((3, (loopB Tryd.f28 3)) :: []) :=
  LoopsOK.cons (LoopsOK.nil) (E_impl_wordsText_ok k).2 (F := F_impl_tableText_l0 k) k [] (by kernel_rfl) (by kernel_rfl) (fun K x y => rfl) (fun n x y K => by kernel_rfl)
def sp_impl_tableText_l1 : LSp where
  cv := []
  ts := [(3, .val .str), (37, .val (.sl (.sl (.int .i64)))), (38, .val (.int .i64)), (39, .val (.int .i64)), (43, .val (.sl (.int .i64))), (44, .val (.int .i64)), (45, .val (.int .i64))]
  ids := []
  tx := fun e => match e with | .exit i => bif Nat.beq i 4 then [3, 37, 38, 39] else [] | .ret => [] | .normal => []
  ix := fun e => match e with | .exit i => bif Nat.beq i 4 then [] else [] | .ret => [] | .normal => []
def F_impl_tableText_l1 (k : Nat) : LArg sp_impl_tableText_l1 := fun K n x y => impl_tableText_l1 k (fun (y0 : ByteArray) (y1 : List (List Int)) (y2 : Int) (y3 : Int) => K (.exit 4) (mkSt [(3, .val .str y0), (37, .val (.sl (.sl (.int .i64))) y1), (38, .val (.int .i64) y2), (39, .val (.int .i64) y3)] [])) n x.1 x.2.1 x.2.2.1 x.2.2.2.1 x.2.2.2.2.1 x.2.2.2.2.2.1 x.2.2.2.2.2.2.1
def LO_impl_tableText_l1 (k : Nat) : LTbl := (lcons 12 (ltab sp_impl_tableText_l1 (F_impl_tableText_l1 k) k) (LO_impl_tableText_l0 k))
theorem lk_impl_tableText_l1 (k : Nat) : LoopsOK Tryd.prog glob (E_impl_wordsText k) cx_impl_tableText (LO_impl_tableText_l1 k) ((12, (loopB Tryd.f28 12)) :: ((3, (loopB Tryd.f28 3)) :: [])) :=
  LoopsOK.cons (lk_impl_tableText_l0 k) (E_impl_wordsText_ok k).2 (F := F_impl_tableText_l1 k) k [] (by kernel_rfl) (by kernel_rfl) (fun K x y => rfl) (fun n x y K => by kernel_rfl)
def sp_impl_tableText_l2 : LSp where
  cv := []
  ts := [(3, .val .str), (37, .val (.sl (.sl (.int .i64)))), (38, .val (.int .i64)), (39, .val (.int .i64))]
  ids := []
  tx := fun e => match e with | .exit i => bif Nat.beq i 2 then [3] else [] | .ret => [] | .normal => []
  ix := fun e => match e with | .exit i => bif Nat.beq i 2 then [] else [] | .ret => [] | .normal => []
def F_impl_tableText_l2 (k : Nat) : LArg sp_impl_tableText_l2 := fun K n x y => impl_tableText_l2 k (fun (y0 : ByteArray) => K (.exit 2) (mkSt [(3, .val .str y0)] [])) n x.1 x.2.1 x.2.2.1 x.2.2.2.1
def LO_impl_tableText_l2 (k : Nat) : LTbl := (lcons 9 (ltab sp_impl_tableText_l2 (F_impl_tableText_l2 k) k) (LO_impl_tableText_l1 k))
theorem lk_impl_tableText_l2 (k : Nat) : LoopsOK Tryd.prog glob (E_impl_wordsText k) cx_impl_tableText (LO_impl_tableText_l2 k) ((9, (loopB Tryd.f28 9)) :: ((12, (loopB Tryd.f28 12)) :: ((3, (loopB Tryd.f28 3)) :: []))) :=
  LoopsOK.cons (lk_impl_tableText_l1 k) (E_impl_wordsText_ok k).2 (F := F_impl_tableText_l2 k) k [0] (by kernel_rfl) (by kernel_rfl) (fun K x y => rfl) (fun n x y K => by kernel_rfl)
def F_impl_tableText (k : Nat) : FArg (.c (.val (.st (.pair (.sl (.st (.pair (.int .i64) (.int .i64)))) (.pair (.int .i64) (.sl (.sl (.int .i64))))))) .e) := fun x K => impl_tableText k x.1 (fun (r0 : ByteArray) => K [⟨.str, r0, true⟩])
theorem s_impl_tableText (k : Nat) : SoundF Tryd.prog glob 28 (ftab (.c (.val (.st (.pair (.sl (.st (.pair (.int .i64) (.int .i64)))) (.pair (.int .i64) (.sl (.sl (.int .i64))))))) .e) (F_impl_tableText k)) :=
  fun_ok (cx := cx_impl_tableText) (by kernel_rfl) ⟨types, (E_impl_wordsText_ok k).1, (E_impl_wordsText_ok k).2, mixed, rfl⟩ Tryd.func28 rfl (lk_impl_tableText_l2 k) [2, 0] (by kernel_rfl) (fun x K => by kernel_rfl)
def E_impl_tableText (k : Nat) : Tbl := tcons 28 (ftab (.c (.val (.st (.pair (.sl (.st (.pair (.int .i64) (.int .i64)))) (.pair (.int .i64) (.sl (.sl (.int .i64))))))) .e) (F_impl_tableText k)) (E_impl_wordsText k)
theorem E_impl_tableText_ok (k : Nat) : SoundE Tryd.prog glob (E_impl_tableText k) ∧ NatE (E_impl_tableText k) := ⟨tcons_sound (s_impl_tableText k) (E_impl_wordsText_ok k).1, tcons_nat (s_impl_tableText k) (E_impl_wordsText_ok k).2⟩
/-- impl.TableText -/
def cx_impl_TableText : Cx := { N := 9, G := glob, C := tys, ad := fun d => false, wk := false }
def F_impl_TableText (k : Nat) : FArg (.c (.val (.st (.pair (.sl (.st (.pair (.int .i64) (.int .i64)))) (.pair (.int .i64) (.sl (.sl (.int .i64))))))) .e) := fun x K => impl_TableText k x.1 (fun (r0 : ByteArray) (r1 : Bool) => K [⟨.str, r0, true⟩, ⟨.bool, r1, true⟩])
theorem s_impl_TableText (k : Nat) : SoundF Tryd.prog glob 15 (ftab (.c (.val (.st (.pair (.sl (.st (.pair (.int .i64) (.int .i64)))) (.pair (.int .i64) (.sl (.sl (.int .i64))))))) .e) (F_impl_TableText k)) :=
  fun_ok (cx := cx_impl_TableText) (by kernel_rfl) ⟨types, (E_impl_tableText_ok k).1, (E_impl_tableText_ok k).2, mixed, rfl⟩ Tryd.func15 rfl (LoopsOK.nil) [] (by kernel_rfl) (fun x K => by kernel_rfl)
def E_impl_TableText (k : Nat) : Tbl := tcons 15 (ftab (.c (.val (.st (.pair (.sl (.st (.pair (.int .i64) (.int .i64)))) (.pair (.int .i64) (.sl (.sl (.int .i64))))))) .e) (F_impl_TableText k)) (E_impl_tableText k)
theorem E_impl_TableText_ok (k : Nat) : SoundE Tryd.prog glob (E_impl_TableText k) ∧ NatE (E_impl_TableText k) := ⟨tcons_sound (s_impl_TableText k) (E_impl_tableText_ok k).1, tcons_nat (s_impl_TableText k) (E_impl_tableText_ok k).2⟩
/-- laws.eqOdds -/
def cx_laws_eqOdds : Cx := { N := 15, G := glob, C := tys, ad := fun d => false, wk := false }
def F_laws_eqOdds (k : Nat) : FArg (.c (.val (.st (.pair (.int .i64) (.int .i64)))) (.c (.val (.st (.pair (.int .i64) (.int .i64)))) .e)) := fun x K => laws_eqOdds x.1 x.2.1 (fun (r0 : Bool) => K [⟨.bool, r0, true⟩])
theorem s_laws_eqOdds (k : Nat) : SoundF Tryd.prog glob 67 (ftab (.c (.val (.st (.pair (.int .i64) (.int .i64)))) (.c (.val (.st (.pair (.int .i64) (.int .i64)))) .e)) (F_laws_eqOdds k)) :=
  fun_ok (cx := cx_laws_eqOdds) (by kernel_rfl) ⟨types, (E_impl_TableText_ok k).1, (E_impl_TableText_ok k).2, mixed, rfl⟩ Tryd.func67 rfl (LoopsOK.nil) [] (by kernel_rfl) (fun x K => by kernel_rfl)
def E_laws_eqOdds (k : Nat) : Tbl := tcons 67 (ftab (.c (.val (.st (.pair (.int .i64) (.int .i64)))) (.c (.val (.st (.pair (.int .i64) (.int .i64)))) .e)) (F_laws_eqOdds k)) (E_impl_TableText k)
theorem E_laws_eqOdds_ok (k : Nat) : SoundE Tryd.prog glob (E_laws_eqOdds k) ∧ NatE (E_laws_eqOdds k) := ⟨tcons_sound (s_laws_eqOdds k) (E_impl_TableText_ok k).1, tcons_nat (s_laws_eqOdds k) (E_impl_TableText_ok k).2⟩
/-- laws.eqOddsS -/
def cx_laws_eqOddsS : Cx := { N := 27, G := glob, C := tys, ad := fun d => false, wk := false }
def sp_laws_eqOddsS_l0 : LSp where
  cv := []
  ts := [(0, .val (.sl (.st (.pair (.int .i64) (.int .i64))))), (1, .val (.sl (.st (.pair (.int .i64) (.int .i64))))), (5, .val (.int .i64))]
  ids := []
  tx := fun e => match e with | .exit i => bif Nat.beq i 0 then [] else [] | .ret => [4] | .normal => []
  ix := fun e => match e with | .exit i => bif Nat.beq i 0 then [] else [] | .ret => [] | .normal => []
def F_laws_eqOddsS_l0 (k : Nat) : LArg sp_laws_eqOddsS_l0 := fun K n x y => laws_eqOddsS_l0 k (K (.exit 0) (mkSt [] [])) (fun (y0 : Bool) => K (.ret) (mkSt [(4, .val .bool y0)] [])) n x.1 x.2.1 x.2.2.1
def LO_laws_eqOddsS_l0 (k : Nat) : LTbl := (lcons 4 (ltab sp_laws_eqOddsS_l0 (F_laws_eqOddsS_l0 k) k) lnil)
theorem lk_laws_eqOddsS_l0 (k : Nat) : LoopsOK Tryd.prog glob (E_laws_eqOdds k) cx_laws_eqOddsS (LO_laws_eqOddsS_l0 k) ((4, (loopB Tryd.f29 4)) :: []) :=
  LoopsOK.cons (LoopsOK.nil) (E_laws_eqOdds_ok k).2 (F := F_laws_eqOddsS_l0 k) k [] (by kernel_rfl) (by kernel_rfl) (fun K x y => rfl) (fun n x y K => by kernel_rfl)
def F_laws_eqOddsS (k : Nat) : FArg (.c (.val (.sl (.st (.pair (.int .i64) (.int .i64))))) (.c (.val (.sl (.st (.pair (.int .i64) (.int .i64))))) .e)) := fun x K => laws_eqOddsS k x.1 x.2.1 (fun (r0 : Bool) => K [⟨.bool, r0, true⟩])
theorem s_laws_eqOddsS (k : Nat) : SoundF Tryd.prog glob 29 (ftab (.c (.val (.sl (.st (.pair (.int .i64) (.int .i64))))) (.c (.val (.sl (.st (.pair (.int .i64) (.int .i64))))) .e)) (F_laws_eqOddsS k)) :=
  fun_ok (cx := cx_laws_eqOddsS) (by kernel_rfl) ⟨types, (E_laws_eqOdds_ok k).1, (E_laws_eqOdds_ok k).2, mixed, rfl⟩ Tryd.func29 rfl (lk_laws_eqOddsS_l0 k) [0] (by kernel_rfl) (fun x K => by kernel_rfl)
def E_laws_eqOddsS (k : Nat) : Tbl := tcons 29 (ftab (.c (.val (.sl (.st (.pair (.int .i64) (.int .i64))))) (.c (.val (.sl (.st (.pair (.int .i64) (.int .i64))))) .e)) (F_laws_eqOddsS k)) (E_laws_eqOdds k)
theorem E_laws_eqOddsS_ok (k : Nat) : SoundE Tryd.prog glob (E_laws_eqOddsS k) ∧ NatE (E_laws_eqOddsS k) := ⟨tcons_sound (s_laws_eqOddsS k) (E_laws_eqOdds_ok k).1, tcons_nat (s_laws_eqOddsS k) (E_laws_eqOdds_ok k).2⟩
/-- laws.eqIntS -/
def cx_laws_eqIntS : Cx := { N := 26, G := glob, C := tys, ad := fun d => false, wk := false }
def sp_laws_eqIntS_l0 : LSp where
  cv := []
  ts := [(0, .val (.sl (.int .i64))), (1, .val (.sl (.int .i64))), (5, .val (.int .i64))]
  ids := []
  tx := fun e => match e with | .exit i => bif Nat.beq i 0 then [] else [] | .ret => [4] | .normal => []
  ix := fun e => match e with | .exit i => bif Nat.beq i 0 then [] else [] | .ret => [] | .normal => []
def F_laws_eqIntS_l0 (k : Nat) : LArg sp_laws_eqIntS_l0 := fun K n x y => laws_eqIntS_l0 k (K (.exit 0) (mkSt [] [])) (fun (y0 : Bool) => K (.ret) (mkSt [(4, .val .bool y0)] [])) n x.1 x.2.1 x.2.2.1
def LO_laws_eqIntS_l0 (k : Nat) : LTbl := (lcons 4 (ltab sp_laws_eqIntS_l0 (F_laws_eqIntS_l0 k) k) lnil)
theorem lk_laws_eqIntS_l0 (k : Nat) : LoopsOK Tryd.prog glob (E_laws_eqOddsS k) cx_laws_eqIntS (LO_laws_eqIntS_l0 k) ((4, (loopB Tryd.f68 4)) :: []) :=
  LoopsOK.cons (LoopsOK.nil) (E_laws_eqOddsS_ok k).2 (F := F_laws_eqIntS_l0 k) k [] (by kernel_rfl) (by kernel_rfl) (fun K x y => rfl) (fun n x y K => by kernel_rfl)
def F_laws_eqIntS (k : Nat) : FArg (.c (.val (.sl (.int .i64))) (.c (.val (.sl (.int .i64))) .e)) := fun x K => laws_eqIntS k x.1 x.2.1 (fun (r0 : Bool) => K [⟨.bool, r0, true⟩])
theorem s_laws_eqIntS (k : Nat) : SoundF Tryd.prog glob 68 (ftab (.c (.val (.sl (.int .i64))) (.c (.val (.sl (.int .i64))) .e)) (F_laws_eqIntS k)) :=
  fun_ok (cx := cx_laws_eqIntS) (by kernel_rfl) ⟨types, (E_laws_eqOddsS_ok k).1, (E_laws_eqOddsS_ok k).2, mixed, rfl⟩ Tryd.func68 rfl (lk_laws_eqIntS_l0 k) [0] (by kernel_rfl) (fun x K => by kernel_rfl)
def E_laws_eqIntS (k : Nat) : Tbl := tcons 68 (ftab (.c (.val (.sl (.int .i64))) (.c (.val (.sl (.int .i64))) .e)) (F_laws_eqIntS k)) (E_laws_eqOddsS k)
theorem E_laws_eqIntS_ok (k : Nat) : SoundE Tryd.prog glob (E_laws_eqIntS k) ∧ NatE (E_laws_eqIntS k) := ⟨tcons_sound (s_laws_eqIntS k) (E_laws_eqOddsS_ok k).1, tcons_nat (s_laws_eqIntS k) (E_laws_eqOddsS_ok k).2⟩
/-- laws.eqIntSS -/
def cx_laws_eqIntSS : Cx := { N := 27, G := glob, C := tys, ad := fun d => false, wk := false }
def sp_laws_eqIntSS_l0 : LSp where
  cv := []
  ts := [(0, .val (.sl (.sl (.int .i64)))), (1, .val (.sl (.sl (.int .i64)))), (5, .val (.int .i64))]
  ids := []
  tx := fun e => match e with | .exit i => bif Nat.beq i 0 then [] else [] | .ret => [4] | .normal => []
  ix := fun e => match e with | .exit i => bif Nat.beq i 0 then [] else [] | .ret => [] | .normal => []
def F_laws_eqIntSS_l0 (k : Nat) : LArg sp_laws_eqIntSS_l0 := fun K n x y => laws_eqIntSS_l0 k (K (.exit 0) (mkSt [] [])) (fun (y0 : Bool) => K (.ret) (mkSt [(4, .val .bool y0)] [])) n x.1 x.2.1 x.2.2.1
def LO_laws_eqIntSS_l0 (k : Nat) : LTbl := (lcons 4 (ltab sp_laws_eqIntSS_l0 (F_laws_eqIntSS_l0 k) k) lnil)
theorem lk_laws_eqIntSS_l0 (k : Nat) : LoopsOK Tryd.prog glob (E_laws_eqIntS k) cx_laws_eqIntSS (LO_laws_eqIntSS_l0 k) ((4, (loopB Tryd.f30 4)) :: []) :=
  LoopsOK.cons (LoopsOK.nil) (E_laws_eqIntS_ok k).2 (F := F_laws_eqIntSS_l0 k) k [] (by kernel_rfl) (by kernel_rfl) (fun K x y => rfl) (fun n x y K => by kernel_rfl)
def F_laws_eqIntSS (k : Nat) : FArg (.c (.val (.sl (.sl (.int .i64)))) (.c (.val (.sl (.sl (.int .i64)))) .e)) := fun x K => laws_eqIntSS k x.1 x.2.1 (fun (r0 : Bool) => K [⟨.bool, r0, true⟩])
theorem s_laws_eqIntSS (k : Nat) : SoundF Tryd.prog glob 30 (ftab (.c (.val (.sl (.sl (.int .i64)))) (.c (.val (.sl (.sl (.int .i64)))) .e)) (F_laws_eqIntSS k)) :=
  fun_ok (cx := cx_laws_eqIntSS) (by kernel_rfl) ⟨types, (E_laws_eqIntS_ok k).1, (E_laws_eqIntS_ok k).2, mixed, rfl⟩ Tryd.func30 rfl (lk_laws_eqIntSS_l0 k) [0] (by kernel_rfl) (fun x K => by kernel_rfl)
def E_laws_eqIntSS (k : Nat) : Tbl := tcons 30 (ftab (.c (.val (.sl (.sl (.int .i64)))) (.c (.val (.sl (.sl (.int .i64)))) .e)) (F_laws_eqIntSS k)) (E_laws_eqIntS k)
theorem E_laws_eqIntSS_ok (k : Nat) : SoundE Tryd.prog glob (E_laws_eqIntSS k) ∧ NatE (E_laws_eqIntSS k) := ⟨tcons_sound (s_laws_eqIntSS k) (E_laws_eqIntS_ok k).1, tcons_nat (s_laws_eqIntSS k) (E_laws_eqIntS_ok k).2⟩
/-- laws.eqCombatTable -/
def cx_laws_eqCombatTable : Cx := { N := 22, G := glob, C := tys, ad := fun d => false, wk := false }
def F_laws_eqCombatTable (k : Nat) : FArg (.c (.val (.st (.pair (.sl (.st (.pair (.int .i64) (.int .i64)))) (.pair (.int .i64) (.sl (.sl (.int .i64))))))) (.c (.val (.st (.pair (.sl (.st (.pair (.int .i64) (.int .i64)))) (.pair (.int .i64) (.sl (.sl (.int .i64))))))) .e)) := fun x K => laws_eqCombatTable k x.1 x.2.1 (fun (r0 : Bool) => K [⟨.bool, r0, true⟩])
theorem s_laws_eqCombatTable (k : Nat) : SoundF Tryd.prog glob 9 (ftab (.c (.val (.st (.pair (.sl (.st (.pair (.int .i64) (.int .i64)))) (.pair (.int .i64) (.sl (.sl (.int .i64))))))) (.c (.val (.st (.pair (.sl (.st (.pair (.int .i64) (.int .i64)))) (.pair (.int .i64) (.sl (.sl (.int .i64))))))) .e)) (F_laws_eqCombatTable k)) :=
  fun_ok (cx := cx_laws_eqCombatTable) (by kernel_rfl) ⟨types, (E_laws_eqIntSS_ok k).1, (E_laws_eqIntSS_ok k).2, mixed, rfl⟩ Tryd.func9 rfl (LoopsOK.nil) [] (by kernel_rfl) (fun x K => by kernel_rfl)
def E_laws_eqCombatTable (k : Nat) : Tbl := tcons 9 (ftab (.c (.val (.st (.pair (.sl (.st (.pair (.int .i64) (.int .i64)))) (.pair (.int .i64) (.sl (.sl (.int .i64))))))) (.c (.val (.st (.pair (.sl (.st (.pair (.int .i64) (.int .i64)))) (.pair (.int .i64) (.sl (.sl (.int .i64))))))) .e)) (F_laws_eqCombatTable k)) (E_laws_eqIntSS k)
theorem E_laws_eqCombatTable_ok (k : Nat) : SoundE Tryd.prog glob (E_laws_eqCombatTable k) ∧ NatE (E_laws_eqCombatTable k) := ⟨tcons_sound (s_laws_eqCombatTable k) (E_laws_eqIntSS_ok k).1, tcons_nat (s_laws_eqCombatTable k) (E_laws_eqIntSS_ok k).2⟩
/-- laws.FnExactTableText -/
def cx_laws_FnExactTableText : Cx := { N := 40, G := glob, C := tys, ad := fun d => false, wk := false }
def F_laws_FnExactTableText (k : Nat) : FArg (.c (.val (.st (.pair (.sl (.st (.pair (.int .i64) (.int .i64)))) (.pair (.int .i64) (.sl (.sl (.int .i64))))))) .e) := fun x K => laws_FnExactTableText k x.1 (fun (r0 : Bool) => K [⟨.bool, r0, true⟩])
theorem s_laws_FnExactTableText (k : Nat) : SoundF Tryd.prog glob 4 (ftab (.c (.val (.st (.pair (.sl (.st (.pair (.int .i64) (.int .i64)))) (.pair (.int .i64) (.sl (.sl (.int .i64))))))) .e) (F_laws_FnExactTableText k)) :=
  fun_ok (cx := cx_laws_FnExactTableText) (by kernel_rfl) ⟨types, (E_laws_eqCombatTable_ok k).1, (E_laws_eqCombatTable_ok k).2, mixed, rfl⟩ Tryd.func4 rfl (LoopsOK.nil) [] (by kernel_rfl) (fun x K => by kernel_rfl)
def E_laws_FnExactTableText (k : Nat) : Tbl := tcons 4 (ftab (.c (.val (.st (.pair (.sl (.st (.pair (.int .i64) (.int .i64)))) (.pair (.int .i64) (.sl (.sl (.int .i64))))))) .e) (F_laws_FnExactTableText k)) (E_laws_eqCombatTable k)
theorem E_laws_FnExactTableText_ok (k : Nat) : SoundE Tryd.prog glob (E_laws_FnExactTableText k) ∧ NatE (E_laws_FnExactTableText k) := ⟨tcons_sound (s_laws_FnExactTableText k) (E_laws_eqCombatTable_ok k).1, tcons_nat (s_laws_FnExactTableText k) (E_laws_eqCombatTable_ok k).2⟩
end Go.Proofs.YtncllndlbeghjaaDoor.TieTableText
