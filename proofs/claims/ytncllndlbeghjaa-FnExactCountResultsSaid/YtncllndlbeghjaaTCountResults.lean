import Derived.Test.YtncllndlbeghjaaEv3
import Derived.Test.YtncllndlbeghjaaLgIHTALBLBMCL
import Derived.KernelRfl
import Derived.Eval
import Derived.Test.YtncllndlbeghjaaProg
import Derived.Test.YtncllndlbeghjaaChecked
set_option linter.unusedVariables false
set_option linter.unusedSimpArgs false
set_option linter.unusedSectionVars false
set_option linter.unusedVariables false
set_option maxRecDepth 100000
namespace Go.Proofs.Ytncllndlbeghjaa.TieCountResults
open Go Go.Ev Go.Lg Go.Proofs
def tys : Nat → Option Ty := lookT [(3, (.int .i64)), (4, .bool), (22, (.sl (.st (.pair (.int .i64) (.int .i64))))), (23, (.sl (.sl (.int .i64)))), (25, (.st (.pair (.sl (.st (.pair (.int .i64) (.int .i64)))) (.pair (.int .i64) (.sl (.sl (.int .i64))))))), (28, (.sl (.st (.pair (.int .i64) (.int .i64))))), (30, (.st (.pair (.sl (.st (.pair (.int .i64) (.int .i64)))) (.pair (.int .i64) (.sl (.sl (.int .i64))))))), (42, (.sl (.int .i64))), (69, (.st (.pair (.int .i64) (.int .i64)))), (95, (.st (.pair (.int .i64) (.int .i64))))]
def glob : Nat → AV := fun g => .bot
theorem types : Types Try.prog tys := types_of (by kernel_rfl)
theorem mixed : Try.prog.follows .mixedOrders = true := Checked.mixed Try.checked
theorem e0 : SoundE Try.prog glob tnil ∧ NatE tnil := ⟨tnil_sound, tnil_nat⟩
theorem tab_cons {n : Nat} {t : FFun} {E : Tbl} (h : SoundF Try.prog glob n t) (h2 : SoundE Try.prog glob E ∧ NatE E) : SoundE Try.prog glob (tcons n t E) ∧ NatE (tcons n t E) := ⟨tcons_sound h h2.1, tcons_nat h h2.2⟩
theorem tab_consI {n m : Nat} {t : FFun} {E : Tbl} (hm : m ≠ 0) (h : SoundI Try.prog glob n m t) (h2 : SoundE Try.prog glob E ∧ NatE E) : SoundE Try.prog glob (tcons (n + 1000000 * m) t E) ∧ NatE (tcons (n + 1000000 * m) t E) := ⟨tconsI_sound hm h h2.1, tconsI_nat h h2.2⟩
/-- laws.szOddsS -/
def cx_laws_szOddsS : Cx := { N := 12, G := glob, C := tys, ad := fun d => false, wk := false }
def F_laws_szOddsS (k : Nat) : FArg (.c (.val (.sl (.st (.pair (.int .i64) (.int .i64))))) (.c (.val (.int .i64)) .e)) := fun x K => laws_szOddsS x.1 x.2.1 (fun (r0 : Int) => K [⟨(.int .i64), r0, true⟩])
theorem s_laws_szOddsS (k : Nat) : SoundF Try.prog glob 43 (ftab (.c (.val (.sl (.st (.pair (.int .i64) (.int .i64))))) (.c (.val (.int .i64)) .e)) (F_laws_szOddsS k)) :=
  fun_ok (cx := cx_laws_szOddsS) (by kernel_rfl) ⟨types, (e0).1, (e0).2, mixed, rfl⟩ Try.func43 rfl (LoopsOK.nil) [] (by kernel_rfl) (fun x K => by kernel_rfl)
def E_laws_szOddsS (k : Nat) : Tbl := tcons 43 (ftab (.c (.val (.sl (.st (.pair (.int .i64) (.int .i64))))) (.c (.val (.int .i64)) .e)) (F_laws_szOddsS k)) (tnil)
theorem E_laws_szOddsS_ok (k : Nat) : SoundE Try.prog glob (E_laws_szOddsS k) ∧ NatE (E_laws_szOddsS k) := tab_cons (s_laws_szOddsS k) (e0)
/-- laws.szIntS -/
def cx_laws_szIntS : Cx := { N := 12, G := glob, C := tys, ad := fun d => false, wk := false }
def F_laws_szIntS (k : Nat) : FArg (.c (.val (.sl (.int .i64))) (.c (.val (.int .i64)) .e)) := fun x K => laws_szIntS x.1 x.2.1 (fun (r0 : Int) => K [⟨(.int .i64), r0, true⟩])
theorem s_laws_szIntS (k : Nat) : SoundF Try.prog glob 81 (ftab (.c (.val (.sl (.int .i64))) (.c (.val (.int .i64)) .e)) (F_laws_szIntS k)) :=
  fun_ok (cx := cx_laws_szIntS) (by kernel_rfl) ⟨types, (E_laws_szOddsS_ok k).1, (E_laws_szOddsS_ok k).2, mixed, rfl⟩ Try.func81 rfl (LoopsOK.nil) [] (by kernel_rfl) (fun x K => by kernel_rfl)
def E_laws_szIntS (k : Nat) : Tbl := tcons 81 (ftab (.c (.val (.sl (.int .i64))) (.c (.val (.int .i64)) .e)) (F_laws_szIntS k)) (E_laws_szOddsS k)
theorem E_laws_szIntS_ok (k : Nat) : SoundE Try.prog glob (E_laws_szIntS k) ∧ NatE (E_laws_szIntS k) := tab_cons (s_laws_szIntS k) (E_laws_szOddsS_ok k)
/-- laws.szIntSS -/
def cx_laws_szIntSS : Cx := { N := 27, G := glob, C := tys, ad := fun d => false, wk := false }
def sp_laws_szIntSS_l0 : LSp where
  cv := []
  ts := [(0, .val (.sl (.sl (.int .i64)))), (1, .val (.int .i64)), (5, .val (.int .i64))]
  ids := []
  tx := fun e => match e with | .exit i => bif Nat.beq i 0 then [1] else [] | .ret => [4] | .normal => []
  ix := fun e => match e with | .exit i => bif Nat.beq i 0 then [] else [] | .ret => [] | .normal => []
def F_laws_szIntSS_l0 (k : Nat) : LArg sp_laws_szIntSS_l0 := fun K n x y => laws_szIntSS_l0 k (fun (y0 : Int) => K (.exit 0) (mkSt [(1, .val (.int .i64) y0)] [])) (fun (y0 : Int) => K (.ret) (mkSt [(4, .val (.int .i64) y0)] [])) n x.1 x.2.1 x.2.2.1
def LO_laws_szIntSS_l0 (k : Nat) : LTbl := (lcons 5 (ltab sp_laws_szIntSS_l0 (F_laws_szIntSS_l0 k) k) lnil)
theorem lk_laws_szIntSS_l0 (k : Nat) : LoopsOK Try.prog glob (E_laws_szIntS k) cx_laws_szIntSS (LO_laws_szIntSS_l0 k) ((5, (loopB Try.f44 5)) :: []) :=
  LoopsOK.cons (LoopsOK.nil) (E_laws_szIntS_ok k).2 (F := F_laws_szIntSS_l0 k) k [] (by kernel_rfl) (by kernel_rfl) (fun K x y => rfl) (fun n x y K => by kernel_rfl)
def F_laws_szIntSS (k : Nat) : FArg (.c (.val (.sl (.sl (.int .i64)))) (.c (.val (.int .i64)) .e)) := fun x K => laws_szIntSS k x.1 x.2.1 (fun (r0 : Int) => K [⟨(.int .i64), r0, true⟩])
theorem s_laws_szIntSS (k : Nat) : SoundF Try.prog glob 44 (ftab (.c (.val (.sl (.sl (.int .i64)))) (.c (.val (.int .i64)) .e)) (F_laws_szIntSS k)) :=
  fun_ok (cx := cx_laws_szIntSS) (by kernel_rfl) ⟨types, (E_laws_szIntS_ok k).1, (E_laws_szIntS_ok k).2, mixed, rfl⟩ Try.func44 rfl (lk_laws_szIntSS_l0 k) [0] (by kernel_rfl) (fun x K => by kernel_rfl)
def E_laws_szIntSS (k : Nat) : Tbl := tcons 44 (ftab (.c (.val (.sl (.sl (.int .i64)))) (.c (.val (.int .i64)) .e)) (F_laws_szIntSS k)) (E_laws_szIntS k)
theorem E_laws_szIntSS_ok (k : Nat) : SoundE Try.prog glob (E_laws_szIntSS k) ∧ NatE (E_laws_szIntSS k) := tab_cons (s_laws_szIntSS k) (E_laws_szIntS_ok k)
/-- laws.szCombatTable -/
def cx_laws_szCombatTable : Cx := { N := 18, G := glob, C := tys, ad := fun d => false, wk := false }
def F_laws_szCombatTable (k : Nat) : FArg (.c (.val (.st (.pair (.sl (.st (.pair (.int .i64) (.int .i64)))) (.pair (.int .i64) (.sl (.sl (.int .i64))))))) (.c (.val (.int .i64)) .e)) := fun x K => laws_szCombatTable k x.1 x.2.1 (fun (r0 : Int) => K [⟨(.int .i64), r0, true⟩])
theorem s_laws_szCombatTable (k : Nat) : SoundF Try.prog glob 13 (ftab (.c (.val (.st (.pair (.sl (.st (.pair (.int .i64) (.int .i64)))) (.pair (.int .i64) (.sl (.sl (.int .i64))))))) (.c (.val (.int .i64)) .e)) (F_laws_szCombatTable k)) :=
  fun_ok (cx := cx_laws_szCombatTable) (by kernel_rfl) ⟨types, (E_laws_szIntSS_ok k).1, (E_laws_szIntSS_ok k).2, mixed, rfl⟩ Try.func13 rfl (LoopsOK.nil) [] (by kernel_rfl) (fun x K => by kernel_rfl)
def E_laws_szCombatTable (k : Nat) : Tbl := tcons 13 (ftab (.c (.val (.st (.pair (.sl (.st (.pair (.int .i64) (.int .i64)))) (.pair (.int .i64) (.sl (.sl (.int .i64))))))) (.c (.val (.int .i64)) .e)) (F_laws_szCombatTable k)) (E_laws_szIntSS k)
theorem E_laws_szCombatTable_ok (k : Nat) : SoundE Try.prog glob (E_laws_szCombatTable k) ∧ NatE (E_laws_szCombatTable k) := tab_cons (s_laws_szCombatTable k) (E_laws_szIntSS_ok k)
/-- laws.toOdds -/
def cx_laws_toOdds : Cx := { N := 11, G := glob, C := tys, ad := fun d => false, wk := false, dp := true }
def F_laws_toOdds (k : Nat) : FArg (.c (.val (.st (.pair (.int .i64) (.int .i64)))) .e) := fun x K => laws_toOdds x.1 (fun (r0 : Int × Int) => K [⟨(.st (.pair (.int .i64) (.int .i64))), r0, true⟩])
theorem s_laws_toOdds (k : Nat) : SoundF Try.prog glob 84 (ftab (.c (.val (.st (.pair (.int .i64) (.int .i64)))) .e) (F_laws_toOdds k)) :=
  fun_ok (cx := cx_laws_toOdds) (by kernel_rfl) ⟨types, (E_laws_szCombatTable_ok k).1, (E_laws_szCombatTable_ok k).2, mixed, rfl⟩ Try.func84 rfl (LoopsOK.nil) [] (by kernel_rfl) (fun x K => by kernel_rfl)
def E_laws_toOdds (k : Nat) : Tbl := tcons 84 (ftab (.c (.val (.st (.pair (.int .i64) (.int .i64)))) .e) (F_laws_toOdds k)) (E_laws_szCombatTable k)
theorem E_laws_toOdds_ok (k : Nat) : SoundE Try.prog glob (E_laws_toOdds k) ∧ NatE (E_laws_toOdds k) := tab_cons (s_laws_toOdds k) (E_laws_szCombatTable_ok k)
/-- laws.toOddsS -/
def cx_laws_toOddsS : Cx := { N := 23, G := glob, C := tys, ad := fun d => Nat.beq d 20, wk := false, dp := true }
def sp_laws_toOddsS_l0 : LSp where
  cv := []
  ts := [(0, .val (.sl (.st (.pair (.int .i64) (.int .i64))))), (3, .own 7), (4, .val (.int .i64))]
  ids := [(7, .row (.st (.pair (.int .i64) (.int .i64))))]
  tx := fun e => match e with | .exit i => bif Nat.beq i 0 then [3] else [] | .ret => [] | .normal => []
  ix := fun e => match e with | .exit i => bif Nat.beq i 0 then [7] else [] | .ret => [] | .normal => []
def F_laws_toOddsS_l0 (k : Nat) : LArg sp_laws_toOddsS_l0 := fun K n x y => laws_toOddsS_l0 k (fun (y0 : List (Int × Int)) => K (.exit 0) (mkSt [(3, .own 7 1)] [(7, some (.row (.st (.pair (.int .i64) (.int .i64))) y0))])) n x.1 x.2.2.1 y.1
def LO_laws_toOddsS_l0 (k : Nat) : LTbl := (lcons 3 (ltab sp_laws_toOddsS_l0 (F_laws_toOddsS_l0 k) k) lnil)
theorem lk_laws_toOddsS_l0 (k : Nat) : LoopsOK Try.prog glob (E_laws_toOdds k) cx_laws_toOddsS (LO_laws_toOddsS_l0 k) ((3, (loopB Try.f46 3)) :: []) :=
  LoopsOK.cons (LoopsOK.nil) (E_laws_toOdds_ok k).2 (F := F_laws_toOddsS_l0 k) k [] (by kernel_rfl) (by kernel_rfl) (fun K x y => rfl) (fun n x y K => by kernel_rfl)
def F_laws_toOddsS (k : Nat) : FArg (.c (.val (.sl (.st (.pair (.int .i64) (.int .i64))))) .e) := fun x K => laws_toOddsS k x.1 (fun (r0 : List (Int × Int)) => K [⟨(.sl (.st (.pair (.int .i64) (.int .i64)))), r0, true⟩])
theorem s_laws_toOddsS (k : Nat) : SoundF Try.prog glob 46 (ftab (.c (.val (.sl (.st (.pair (.int .i64) (.int .i64))))) .e) (F_laws_toOddsS k)) :=
  fun_ok (cx := cx_laws_toOddsS) (by kernel_rfl) ⟨types, (E_laws_toOdds_ok k).1, (E_laws_toOdds_ok k).2, mixed, rfl⟩ Try.func46 rfl (lk_laws_toOddsS_l0 k) [0] (by kernel_rfl) (fun x K => by kernel_rfl)
def E_laws_toOddsS (k : Nat) : Tbl := tcons 46 (ftab (.c (.val (.sl (.st (.pair (.int .i64) (.int .i64))))) .e) (F_laws_toOddsS k)) (E_laws_toOdds k)
theorem E_laws_toOddsS_ok (k : Nat) : SoundE Try.prog glob (E_laws_toOddsS k) ∧ NatE (E_laws_toOddsS k) := tab_cons (s_laws_toOddsS k) (E_laws_toOdds_ok k)
/-- laws.toIntS -/
def cx_laws_toIntS : Cx := { N := 22, G := glob, C := tys, ad := fun d => false, wk := false, dp := true }
def sp_laws_toIntS_l0 : LSp where
  cv := []
  ts := [(0, .val (.sl (.int .i64))), (3, .own 7), (4, .val (.int .i64))]
  ids := [(7, .row (.int .i64))]
  tx := fun e => match e with | .exit i => bif Nat.beq i 0 then [3] else [] | .ret => [] | .normal => []
  ix := fun e => match e with | .exit i => bif Nat.beq i 0 then [7] else [] | .ret => [] | .normal => []
def F_laws_toIntS_l0 (k : Nat) : LArg sp_laws_toIntS_l0 := fun K n x y => laws_toIntS_l0 k (fun (y0 : List Int) => K (.exit 0) (mkSt [(3, .own 7 1)] [(7, some (.row (.int .i64) y0))])) n x.1 x.2.2.1 y.1
def LO_laws_toIntS_l0 (k : Nat) : LTbl := (lcons 3 (ltab sp_laws_toIntS_l0 (F_laws_toIntS_l0 k) k) lnil)
theorem lk_laws_toIntS_l0 (k : Nat) : LoopsOK Try.prog glob (E_laws_toOddsS k) cx_laws_toIntS (LO_laws_toIntS_l0 k) ((3, (loopB Try.f85 3)) :: []) :=
  LoopsOK.cons (LoopsOK.nil) (E_laws_toOddsS_ok k).2 (F := F_laws_toIntS_l0 k) k [] (by kernel_rfl) (by kernel_rfl) (fun K x y => rfl) (fun n x y K => by kernel_rfl)
def F_laws_toIntS (k : Nat) : FArg (.c (.val (.sl (.int .i64))) .e) := fun x K => laws_toIntS k x.1 (fun (r0 : List Int) => K [⟨(.sl (.int .i64)), r0, true⟩])
theorem s_laws_toIntS (k : Nat) : SoundF Try.prog glob 85 (ftab (.c (.val (.sl (.int .i64))) .e) (F_laws_toIntS k)) :=
  fun_ok (cx := cx_laws_toIntS) (by kernel_rfl) ⟨types, (E_laws_toOddsS_ok k).1, (E_laws_toOddsS_ok k).2, mixed, rfl⟩ Try.func85 rfl (lk_laws_toIntS_l0 k) [0] (by kernel_rfl) (fun x K => by kernel_rfl)
def E_laws_toIntS (k : Nat) : Tbl := tcons 85 (ftab (.c (.val (.sl (.int .i64))) .e) (F_laws_toIntS k)) (E_laws_toOddsS k)
theorem E_laws_toIntS_ok (k : Nat) : SoundE Try.prog glob (E_laws_toIntS k) ∧ NatE (E_laws_toIntS k) := tab_cons (s_laws_toIntS k) (E_laws_toOddsS_ok k)
/-- laws.toIntSS -/
def cx_laws_toIntSS : Cx := { N := 23, G := glob, C := tys, ad := fun d => Nat.beq d 20, wk := false, dp := true }
def sp_laws_toIntSS_l0 : LSp where
  cv := []
  ts := [(0, .val (.sl (.sl (.int .i64)))), (3, .own 7), (4, .val (.int .i64))]
  ids := [(7, .deep (.sl (.int .i64)))]
  tx := fun e => match e with | .exit i => bif Nat.beq i 0 then [3] else [] | .ret => [] | .normal => []
  ix := fun e => match e with | .exit i => bif Nat.beq i 0 then [7] else [] | .ret => [] | .normal => []
def F_laws_toIntSS_l0 (k : Nat) : LArg sp_laws_toIntSS_l0 := fun K n x y => laws_toIntSS_l0 k (fun (y0 : List (List Int)) => K (.exit 0) (mkSt [(3, .own 7 1)] [(7, some (.deep (.sl (.int .i64)) y0 0))])) n x.1 x.2.2.1 y.1
def LO_laws_toIntSS_l0 (k : Nat) : LTbl := (lcons 3 (ltab sp_laws_toIntSS_l0 (F_laws_toIntSS_l0 k) k) lnil)
theorem lk_laws_toIntSS_l0 (k : Nat) : LoopsOK Try.prog glob (E_laws_toIntS k) cx_laws_toIntSS (LO_laws_toIntSS_l0 k) ((3, (loopB Try.f47 3)) :: []) :=
  LoopsOK.cons (LoopsOK.nil) (E_laws_toIntS_ok k).2 (F := F_laws_toIntSS_l0 k) k [] (by kernel_rfl) (by kernel_rfl) (fun K x y => rfl) (fun n x y K => by kernel_rfl)
def F_laws_toIntSS (k : Nat) : FArg (.c (.val (.sl (.sl (.int .i64)))) .e) := fun x K => laws_toIntSS k x.1 (fun (r0 : List (List Int)) => K [⟨(.sl (.sl (.int .i64))), r0, true⟩])
theorem s_laws_toIntSS (k : Nat) : SoundF Try.prog glob 47 (ftab (.c (.val (.sl (.sl (.int .i64)))) .e) (F_laws_toIntSS k)) :=
  fun_ok (cx := cx_laws_toIntSS) (by kernel_rfl) ⟨types, (E_laws_toIntS_ok k).1, (E_laws_toIntS_ok k).2, mixed, rfl⟩ Try.func47 rfl (lk_laws_toIntSS_l0 k) [0] (by kernel_rfl) (fun x K => by kernel_rfl)
def E_laws_toIntSS (k : Nat) : Tbl := tcons 47 (ftab (.c (.val (.sl (.sl (.int .i64)))) .e) (F_laws_toIntSS k)) (E_laws_toIntS k)
theorem E_laws_toIntSS_ok (k : Nat) : SoundE Try.prog glob (E_laws_toIntSS k) ∧ NatE (E_laws_toIntSS k) := tab_cons (s_laws_toIntSS k) (E_laws_toIntS_ok k)
/-- laws.toCombatTable -/
def cx_laws_toCombatTable : Cx := { N := 16, G := glob, C := tys, ad := fun d => Nat.beq d 6 || Nat.beq d 13, wk := false, dp := true }
def F_laws_toCombatTable (k : Nat) : FArg (.c (.val (.st (.pair (.sl (.st (.pair (.int .i64) (.int .i64)))) (.pair (.int .i64) (.sl (.sl (.int .i64))))))) .e) := fun x K => laws_toCombatTable k x.1 (fun (r0 : (List (Int × Int)) × Int × List (List Int)) => K [⟨(.st (.pair (.sl (.st (.pair (.int .i64) (.int .i64)))) (.pair (.int .i64) (.sl (.sl (.int .i64)))))), r0, true⟩])
theorem s_laws_toCombatTable (k : Nat) : SoundF Try.prog glob 15 (ftab (.c (.val (.st (.pair (.sl (.st (.pair (.int .i64) (.int .i64)))) (.pair (.int .i64) (.sl (.sl (.int .i64))))))) .e) (F_laws_toCombatTable k)) :=
  fun_ok (cx := cx_laws_toCombatTable) (by kernel_rfl) ⟨types, (E_laws_toIntSS_ok k).1, (E_laws_toIntSS_ok k).2, mixed, rfl⟩ Try.func15 rfl (LoopsOK.nil) [] (by kernel_rfl) (fun x K => by kernel_rfl)
def E_laws_toCombatTable (k : Nat) : Tbl := tcons 15 (ftab (.c (.val (.st (.pair (.sl (.st (.pair (.int .i64) (.int .i64)))) (.pair (.int .i64) (.sl (.sl (.int .i64))))))) .e) (F_laws_toCombatTable k)) (E_laws_toIntSS k)
theorem E_laws_toCombatTable_ok (k : Nat) : SoundE Try.prog glob (E_laws_toCombatTable k) ∧ NatE (E_laws_toCombatTable k) := tab_cons (s_laws_toCombatTable k) (E_laws_toIntSS_ok k)
/-- spec.l1In -/
def cx_spec_l1In : Cx := { N := 15, G := glob, C := tys, ad := fun d => false, wk := false }
def F_spec_l1In (k : Nat) : FArg (.c (.val (.int .i64)) (.c (.val (.int .i64)) (.c (.val (.int .i64)) .e))) := fun x K => spec_l1In x.1 x.2.1 x.2.2.1 (fun (r0 : Bool) => K [⟨.bool, r0, true⟩])
theorem s_spec_l1In (k : Nat) : SoundF Try.prog glob 55 (ftab (.c (.val (.int .i64)) (.c (.val (.int .i64)) (.c (.val (.int .i64)) .e))) (F_spec_l1In k)) :=
  fun_ok (cx := cx_spec_l1In) (by kernel_rfl) ⟨types, (E_laws_toCombatTable_ok k).1, (E_laws_toCombatTable_ok k).2, mixed, rfl⟩ Try.func55 rfl (LoopsOK.nil) [] (by kernel_rfl) (fun x K => by kernel_rfl)
def E_spec_l1In (k : Nat) : Tbl := tcons 55 (ftab (.c (.val (.int .i64)) (.c (.val (.int .i64)) (.c (.val (.int .i64)) .e))) (F_spec_l1In k)) (E_laws_toCombatTable k)
theorem E_spec_l1In_ok (k : Nat) : SoundE Try.prog glob (E_spec_l1In k) ∧ NatE (E_spec_l1In k) := tab_cons (s_spec_l1In k) (E_laws_toCombatTable_ok k)
/-- spec.kRows -/
def cx_spec_kRows : Cx := { N := 6, G := glob, C := tys, ad := fun d => false, wk := false }
def F_spec_kRows (k : Nat) : FArg (.c (.val (.int .i64)) .e) := fun x K => spec_kRows x.1 (fun (r0 : Int) => K [⟨(.int .i64), r0, true⟩])
theorem s_spec_kRows (k : Nat) : SoundF Try.prog glob 82 (ftab (.c (.val (.int .i64)) .e) (F_spec_kRows k)) :=
  fun_ok (cx := cx_spec_kRows) (by kernel_rfl) ⟨types, (E_spec_l1In_ok k).1, (E_spec_l1In_ok k).2, mixed, rfl⟩ Try.func82 rfl (LoopsOK.nil) [] (by kernel_rfl) (fun x K => by kernel_rfl)
def E_spec_kRows (k : Nat) : Tbl := tcons 82 (ftab (.c (.val (.int .i64)) .e) (F_spec_kRows k)) (E_spec_l1In k)
theorem E_spec_kRows_ok (k : Nat) : SoundE Try.prog glob (E_spec_kRows k) ∧ NatE (E_spec_kRows k) := tab_cons (s_spec_kRows k) (E_spec_l1In_ok k)
/-- spec.l1All -/
def cx_spec_l1All : Cx := { N := 21, G := glob, C := tys, ad := fun d => false, wk := false }
def sp_spec_l1All_l0 : LSp where
  cv := []
  ts := [(1, .val (.int .i64)), (2, .val (.int .i64)), (9, .val (.sl (.int .i64))), (10, .val (.int .i64)), (11, .val (.int .i64))]
  ids := []
  tx := fun e => match e with | .exit i => bif Nat.beq i 0 then [] else [] | .ret => [6] | .normal => []
  ix := fun e => match e with | .exit i => bif Nat.beq i 0 then [] else [] | .ret => [] | .normal => []
def F_spec_l1All_l0 (k : Nat) : LArg sp_spec_l1All_l0 := fun K n x y => spec_l1All_l0 k (K (.exit 0) (mkSt [] [])) (fun (y0 : Bool) => K (.ret) (mkSt [(6, .val .bool y0)] [])) n x.1 x.2.1 x.2.2.1 x.2.2.2.1 x.2.2.2.2.1
def LO_spec_l1All_l0 (k : Nat) : LTbl := (lcons 2 (ltab sp_spec_l1All_l0 (F_spec_l1All_l0 k) k) lnil)
theorem lk_spec_l1All_l0 (k : Nat) : LoopsOK Try.prog glob (E_spec_kRows k) cx_spec_l1All (LO_spec_l1All_l0 k) ((2, (loopB Try.f83 2)) :: []) :=
  LoopsOK.cons (LoopsOK.nil) (E_spec_kRows_ok k).2 (F := F_spec_l1All_l0 k) k [] (by kernel_rfl) (by kernel_rfl) (fun K x y => rfl) (fun n x y K => by kernel_rfl)
def F_spec_l1All (k : Nat) : FArg (.c (.val (.sl (.int .i64))) (.c (.val (.int .i64)) (.c (.val (.int .i64)) .e))) := fun x K => spec_l1All k x.1 x.2.1 x.2.2.1 (fun (r0 : Bool) => K [⟨.bool, r0, true⟩])
theorem s_spec_l1All (k : Nat) : SoundF Try.prog glob 83 (ftab (.c (.val (.sl (.int .i64))) (.c (.val (.int .i64)) (.c (.val (.int .i64)) .e))) (F_spec_l1All k)) :=
  fun_ok (cx := cx_spec_l1All) (by kernel_rfl) ⟨types, (E_spec_kRows_ok k).1, (E_spec_kRows_ok k).2, mixed, rfl⟩ Try.func83 rfl (lk_spec_l1All_l0 k) [0] (by kernel_rfl) (fun x K => by kernel_rfl)
def E_spec_l1All (k : Nat) : Tbl := tcons 83 (ftab (.c (.val (.sl (.int .i64))) (.c (.val (.int .i64)) (.c (.val (.int .i64)) .e))) (F_spec_l1All k)) (E_spec_kRows k)
theorem E_spec_l1All_ok (k : Nat) : SoundE Try.prog glob (E_spec_l1All k) ∧ NatE (E_spec_l1All k) := tab_cons (s_spec_l1All k) (E_spec_kRows_ok k)
/-- spec.kGood -/
def cx_spec_kGood : Cx := { N := 90, G := glob, C := tys, ad := fun d => false, wk := false }
def sp_spec_kGood_l0 : LSp where
  cv := []
  ts := [(1, .ptr 1), (28, .val (.sl (.st (.pair (.int .i64) (.int .i64))))), (29, .val (.int .i64)), (30, .val (.int .i64))]
  ids := [(1, .box (.st (.pair (.sl (.st (.pair (.int .i64) (.int .i64)))) (.pair (.int .i64) (.sl (.sl (.int .i64)))))) (.val (.st (.pair (.sl (.st (.pair (.int .i64) (.int .i64)))) (.pair (.int .i64) (.sl (.sl (.int .i64))))))))]
  tx := fun e => match e with | .exit i => bif Nat.beq i 0 then [1] else [] | .ret => [2] | .normal => []
  ix := fun e => match e with | .exit i => bif Nat.beq i 0 then [1] else [] | .ret => [] | .normal => []
def F_spec_kGood_l0 (k : Nat) : LArg sp_spec_kGood_l0 := fun K n x y => spec_kGood_l0 k (fun (y0 : (List (Int × Int)) × Int × List (List Int)) => K (.exit 0) (mkSt [(1, .ptr 1 1 [])] [(1, some (.box (.st (.pair (.sl (.st (.pair (.int .i64) (.int .i64)))) (.pair (.int .i64) (.sl (.sl (.int .i64)))))) (.val (.st (.pair (.sl (.st (.pair (.int .i64) (.int .i64)))) (.pair (.int .i64) (.sl (.sl (.int .i64)))))) y0)))])) (fun (y0 : Bool) => K (.ret) (mkSt [(2, .val .bool y0)] [])) n x.2.1 x.2.2.1 x.2.2.2.1 y.1
def LO_spec_kGood_l0 (k : Nat) : LTbl := (lcons 4 (ltab sp_spec_kGood_l0 (F_spec_kGood_l0 k) k) lnil)
theorem lk_spec_kGood_l0 (k : Nat) : LoopsOK Try.prog glob (E_spec_l1All k) cx_spec_kGood (LO_spec_kGood_l0 k) ((4, (loopB Try.f45 4)) :: []) :=
  LoopsOK.cons (LoopsOK.nil) (E_spec_l1All_ok k).2 (F := F_spec_kGood_l0 k) k [] (by kernel_rfl) (by kernel_rfl) (fun K x y => rfl) (fun n x y K => by kernel_rfl)
def sp_spec_kGood_l1 : LSp where
  cv := []
  ts := [(1, .ptr 1), (72, .val (.sl (.sl (.int .i64)))), (73, .val (.int .i64)), (74, .val (.int .i64))]
  ids := [(1, .box (.st (.pair (.sl (.st (.pair (.int .i64) (.int .i64)))) (.pair (.int .i64) (.sl (.sl (.int .i64)))))) (.val (.st (.pair (.sl (.st (.pair (.int .i64) (.int .i64)))) (.pair (.int .i64) (.sl (.sl (.int .i64))))))))]
  tx := fun e => match e with | .exit i => bif Nat.beq i 2 then [] else [] | .ret => [2] | .normal => []
  ix := fun e => match e with | .exit i => bif Nat.beq i 2 then [] else [] | .ret => [] | .normal => []
def F_spec_kGood_l1 (k : Nat) : LArg sp_spec_kGood_l1 := fun K n x y => spec_kGood_l1 k (K (.exit 2) (mkSt [] [])) (fun (y0 : Bool) => K (.ret) (mkSt [(2, .val .bool y0)] [])) n x.2.1 x.2.2.1 x.2.2.2.1 y.1
def LO_spec_kGood_l1 (k : Nat) : LTbl := (lcons 12 (ltab sp_spec_kGood_l1 (F_spec_kGood_l1 k) k) (LO_spec_kGood_l0 k))
theorem lk_spec_kGood_l1 (k : Nat) : LoopsOK Try.prog glob (E_spec_l1All k) cx_spec_kGood (LO_spec_kGood_l1 k) ((12, (loopB Try.f45 12)) :: ((4, (loopB Try.f45 4)) :: [])) :=
  LoopsOK.cons (lk_spec_kGood_l0 k) (E_spec_l1All_ok k).2 (F := F_spec_kGood_l1 k) k [] (by kernel_rfl) (by kernel_rfl) (fun K x y => rfl) (fun n x y K => by kernel_rfl)
def F_spec_kGood (k : Nat) : FArg (.c (.val (.st (.pair (.sl (.st (.pair (.int .i64) (.int .i64)))) (.pair (.int .i64) (.sl (.sl (.int .i64))))))) .e) := fun x K => spec_kGood k x.1 (fun (r0 : Bool) => K [⟨.bool, r0, true⟩])
theorem s_spec_kGood (k : Nat) : SoundF Try.prog glob 45 (ftab (.c (.val (.st (.pair (.sl (.st (.pair (.int .i64) (.int .i64)))) (.pair (.int .i64) (.sl (.sl (.int .i64))))))) .e) (F_spec_kGood k)) :=
  fun_ok (cx := cx_spec_kGood) (by kernel_rfl) ⟨types, (E_spec_l1All_ok k).1, (E_spec_l1All_ok k).2, mixed, rfl⟩ Try.func45 rfl (lk_spec_kGood_l1 k) [1, 0] (by kernel_rfl) (fun x K => by kernel_rfl)
def E_spec_kGood (k : Nat) : Tbl := tcons 45 (ftab (.c (.val (.st (.pair (.sl (.st (.pair (.int .i64) (.int .i64)))) (.pair (.int .i64) (.sl (.sl (.int .i64))))))) .e) (F_spec_kGood k)) (E_spec_l1All k)
theorem E_spec_kGood_ok (k : Nat) : SoundE Try.prog glob (E_spec_kGood k) ∧ NatE (E_spec_kGood k) := tab_cons (s_spec_kGood k) (E_spec_l1All_ok k)
/-- spec.kAsked -/
def cx_spec_kAsked : Cx := { N := 15, G := glob, C := tys, ad := fun d => false, wk := false }
def F_spec_kAsked (k : Nat) : FArg (.c (.val (.st (.pair (.sl (.st (.pair (.int .i64) (.int .i64)))) (.pair (.int .i64) (.sl (.sl (.int .i64))))))) (.c (.val (.int .i64)) .e)) := fun x K => spec_kAsked k x.1 x.2.1 (fun (r0 : Bool) => K [⟨.bool, r0, true⟩])
theorem s_spec_kAsked (k : Nat) : SoundF Try.prog glob 54 (ftab (.c (.val (.st (.pair (.sl (.st (.pair (.int .i64) (.int .i64)))) (.pair (.int .i64) (.sl (.sl (.int .i64))))))) (.c (.val (.int .i64)) .e)) (F_spec_kAsked k)) :=
  fun_ok (cx := cx_spec_kAsked) (by kernel_rfl) ⟨types, (E_spec_kGood_ok k).1, (E_spec_kGood_ok k).2, mixed, rfl⟩ Try.func54 rfl (LoopsOK.nil) [] (by kernel_rfl) (fun x K => by kernel_rfl)
def E_spec_kAsked (k : Nat) : Tbl := tcons 54 (ftab (.c (.val (.st (.pair (.sl (.st (.pair (.int .i64) (.int .i64)))) (.pair (.int .i64) (.sl (.sl (.int .i64))))))) (.c (.val (.int .i64)) .e)) (F_spec_kAsked k)) (E_spec_kGood k)
theorem E_spec_kAsked_ok (k : Nat) : SoundE Try.prog glob (E_spec_kAsked k) ∧ NatE (E_spec_kAsked k) := tab_cons (s_spec_kAsked k) (E_spec_kGood_ok k)
/-- spec.kResult -/
def cx_spec_kResult : Cx := { N := 18, G := glob, C := tys, ad := fun d => false, wk := false }
def F_spec_kResult (k : Nat) : FArg (.c (.val (.st (.pair (.sl (.st (.pair (.int .i64) (.int .i64)))) (.pair (.int .i64) (.sl (.sl (.int .i64))))))) (.c (.val (.int .i64)) (.c (.val (.int .i64)) .e))) := fun x K => spec_kResult x.1 x.2.1 x.2.2.1 (fun (r0 : Int) => K [⟨(.int .i64), r0, true⟩])
theorem s_spec_kResult (k : Nat) : SoundF Try.prog glob 56 (ftab (.c (.val (.st (.pair (.sl (.st (.pair (.int .i64) (.int .i64)))) (.pair (.int .i64) (.sl (.sl (.int .i64))))))) (.c (.val (.int .i64)) (.c (.val (.int .i64)) .e))) (F_spec_kResult k)) :=
  fun_ok (cx := cx_spec_kResult) (by kernel_rfl) ⟨types, (E_spec_kAsked_ok k).1, (E_spec_kAsked_ok k).2, mixed, rfl⟩ Try.func56 rfl (LoopsOK.nil) [] (by kernel_rfl) (fun x K => by kernel_rfl)
def E_spec_kResult (k : Nat) : Tbl := tcons 56 (ftab (.c (.val (.st (.pair (.sl (.st (.pair (.int .i64) (.int .i64)))) (.pair (.int .i64) (.sl (.sl (.int .i64))))))) (.c (.val (.int .i64)) (.c (.val (.int .i64)) .e))) (F_spec_kResult k)) (E_spec_kAsked k)
theorem E_spec_kResult_ok (k : Nat) : SoundE Try.prog glob (E_spec_kResult k) ∧ NatE (E_spec_kResult k) := tab_cons (s_spec_kResult k) (E_spec_kAsked_ok k)
/-- spec.l1Most -/
def cx_spec_l1Most : Cx := { N := 10, G := glob, C := tys, ad := fun d => false, wk := false }
def F_spec_l1Most (k : Nat) : FArg (.c (.val (.int .i64)) (.c (.val (.int .i64)) .e)) := fun x K => spec_l1Most x.1 x.2.1 (fun (r0 : Int) => K [⟨(.int .i64), r0, true⟩])
theorem s_spec_l1Most (k : Nat) : SoundF Try.prog glob 89 (ftab (.c (.val (.int .i64)) (.c (.val (.int .i64)) .e)) (F_spec_l1Most k)) :=
  fun_ok (cx := cx_spec_l1Most) (by kernel_rfl) ⟨types, (E_spec_kResult_ok k).1, (E_spec_kResult_ok k).2, mixed, rfl⟩ Try.func89 rfl (LoopsOK.nil) [] (by kernel_rfl) (fun x K => by kernel_rfl)
def E_spec_l1Most (k : Nat) : Tbl := tcons 89 (ftab (.c (.val (.int .i64)) (.c (.val (.int .i64)) .e)) (F_spec_l1Most k)) (E_spec_kResult k)
theorem E_spec_l1Most_ok (k : Nat) : SoundE Try.prog glob (E_spec_l1Most k) ∧ NatE (E_spec_l1Most k) := tab_cons (s_spec_l1Most k) (E_spec_kResult_ok k)
/-- spec.l1Abs -/
def cx_spec_l1Abs : Cx := { N := 7, G := glob, C := tys, ad := fun d => false, wk := false }
def F_spec_l1Abs (k : Nat) : FArg (.c (.val (.int .i64)) .e) := fun x K => spec_l1Abs x.1 (fun (r0 : Int) => K [⟨(.int .i64), r0, true⟩])
theorem s_spec_l1Abs (k : Nat) : SoundF Try.prog glob 106 (ftab (.c (.val (.int .i64)) .e) (F_spec_l1Abs k)) :=
  fun_ok (cx := cx_spec_l1Abs) (by kernel_rfl) ⟨types, (E_spec_l1Most_ok k).1, (E_spec_l1Most_ok k).2, mixed, rfl⟩ Try.func106 rfl (LoopsOK.nil) [] (by kernel_rfl) (fun x K => by kernel_rfl)
def E_spec_l1Abs (k : Nat) : Tbl := tcons 106 (ftab (.c (.val (.int .i64)) .e) (F_spec_l1Abs k)) (E_spec_l1Most k)
theorem E_spec_l1Abs_ok (k : Nat) : SoundE Try.prog glob (E_spec_l1Abs k) ∧ NatE (E_spec_l1Abs k) := tab_cons (s_spec_l1Abs k) (E_spec_l1Most_ok k)
/-- spec.kWays -/
def cx_spec_kWays : Cx := { N := 11, G := glob, C := tys, ad := fun d => false, wk := false }
def F_spec_kWays (k : Nat) : FArg (.c (.val (.int .i64)) (.c (.val (.int .i64)) .e)) := fun x K => spec_kWays x.1 x.2.1 (fun (r0 : Int) => K [⟨(.int .i64), r0, true⟩])
theorem s_spec_kWays (k : Nat) : SoundF Try.prog glob 91 (ftab (.c (.val (.int .i64)) (.c (.val (.int .i64)) .e)) (F_spec_kWays k)) :=
  fun_ok (cx := cx_spec_kWays) (by kernel_rfl) ⟨types, (E_spec_l1Abs_ok k).1, (E_spec_l1Abs_ok k).2, mixed, rfl⟩ Try.func91 rfl (LoopsOK.nil) [] (by kernel_rfl) (fun x K => by kernel_rfl)
def E_spec_kWays (k : Nat) : Tbl := tcons 91 (ftab (.c (.val (.int .i64)) (.c (.val (.int .i64)) .e)) (F_spec_kWays k)) (E_spec_l1Abs k)
theorem E_spec_kWays_ok (k : Nat) : SoundE Try.prog glob (E_spec_kWays k) ∧ NatE (E_spec_kWays k) := tab_cons (s_spec_kWays k) (E_spec_l1Abs_ok k)
/-- spec.kCounts -/
def cx_spec_kCounts : Cx := { N := 31, G := glob, C := tys, ad := fun d => false, wk := false }
def sp_spec_kCounts_l0 : LSp where
  cv := []
  ts := [(1, .val (.int .i64)), (2, .ptr 2), (5, .own 7), (6, .val (.int .i64))]
  ids := [(2, .box (.st (.pair (.sl (.st (.pair (.int .i64) (.int .i64)))) (.pair (.int .i64) (.sl (.sl (.int .i64)))))) (.val (.st (.pair (.sl (.st (.pair (.int .i64) (.int .i64)))) (.pair (.int .i64) (.sl (.sl (.int .i64)))))))), (7, .row (.int .i64))]
  tx := fun e => match e with | .exit i => bif Nat.beq i 0 then [5] else [] | .ret => [] | .normal => []
  ix := fun e => match e with | .exit i => bif Nat.beq i 0 then [7] else [] | .ret => [] | .normal => []
def F_spec_kCounts_l0 (k : Nat) : LArg sp_spec_kCounts_l0 := fun K n x y => spec_kCounts_l0 k (fun (y0 : List Int) => K (.exit 0) (mkSt [(5, .own 7 1)] [(7, some (.row (.int .i64) y0))])) n x.1 x.2.2.2.1 y.1 y.2.1
def LO_spec_kCounts_l0 (k : Nat) : LTbl := (lcons 3 (ltab sp_spec_kCounts_l0 (F_spec_kCounts_l0 k) k) lnil)
theorem lk_spec_kCounts_l0 (k : Nat) : LoopsOK Try.prog glob (E_spec_kWays k) cx_spec_kCounts (LO_spec_kCounts_l0 k) ((3, (loopB Try.f64 3)) :: []) :=
  LoopsOK.cons (LoopsOK.nil) (E_spec_kWays_ok k).2 (F := F_spec_kCounts_l0 k) k [] (by kernel_rfl) (by kernel_rfl) (fun K x y => rfl) (fun n x y K => by kernel_rfl)
def F_spec_kCounts (k : Nat) : FArg (.c (.val (.st (.pair (.sl (.st (.pair (.int .i64) (.int .i64)))) (.pair (.int .i64) (.sl (.sl (.int .i64))))))) (.c (.val (.int .i64)) .e)) := fun x K => spec_kCounts k x.1 x.2.1 (fun (r0 : List Int) => K [⟨(.sl (.int .i64)), r0, true⟩])
theorem s_spec_kCounts (k : Nat) : SoundF Try.prog glob 64 (ftab (.c (.val (.st (.pair (.sl (.st (.pair (.int .i64) (.int .i64)))) (.pair (.int .i64) (.sl (.sl (.int .i64))))))) (.c (.val (.int .i64)) .e)) (F_spec_kCounts k)) :=
  fun_ok (cx := cx_spec_kCounts) (by kernel_rfl) ⟨types, (E_spec_kWays_ok k).1, (E_spec_kWays_ok k).2, mixed, rfl⟩ Try.func64 rfl (lk_spec_kCounts_l0 k) [0] (by kernel_rfl) (fun x K => by kernel_rfl)
def E_spec_kCounts (k : Nat) : Tbl := tcons 64 (ftab (.c (.val (.st (.pair (.sl (.st (.pair (.int .i64) (.int .i64)))) (.pair (.int .i64) (.sl (.sl (.int .i64))))))) (.c (.val (.int .i64)) .e)) (F_spec_kCounts k)) (E_spec_kWays k)
theorem E_spec_kCounts_ok (k : Nat) : SoundE Try.prog glob (E_spec_kCounts k) ∧ NatE (E_spec_kCounts k) := tab_cons (s_spec_kCounts k) (E_spec_kWays_ok k)
/-- spec.CountResults -/
def cx_spec_CountResults : Cx := { N := 13, G := glob, C := tys, ad := fun d => false, wk := true }
def F_spec_CountResults (k : Nat) : FArg (.c (.val (.st (.pair (.sl (.st (.pair (.int .i64) (.int .i64)))) (.pair (.int .i64) (.sl (.sl (.int .i64))))))) (.c (.val (.int .i64)) .e)) := fun x K => spec_CountResults k x.1 x.2.1 (fun (r0 : List Int) (r1 : Bool) => K [⟨(.sl (.int .i64)), r0, false⟩, ⟨.bool, r1, true⟩])
theorem s_spec_CountResults (k : Nat) : SoundF Try.prog glob 28 (ftab (.c (.val (.st (.pair (.sl (.st (.pair (.int .i64) (.int .i64)))) (.pair (.int .i64) (.sl (.sl (.int .i64))))))) (.c (.val (.int .i64)) .e)) (F_spec_CountResults k)) :=
  fun_ok (cx := cx_spec_CountResults) (by kernel_rfl) ⟨types, (E_spec_kCounts_ok k).1, (E_spec_kCounts_ok k).2, mixed, rfl⟩ Try.func28 rfl (LoopsOK.nil) [] (by kernel_rfl) (fun x K => by kernel_rfl)
def E_spec_CountResults (k : Nat) : Tbl := tcons 28 (ftab (.c (.val (.st (.pair (.sl (.st (.pair (.int .i64) (.int .i64)))) (.pair (.int .i64) (.sl (.sl (.int .i64))))))) (.c (.val (.int .i64)) .e)) (F_spec_CountResults k)) (E_spec_kCounts k)
theorem E_spec_CountResults_ok (k : Nat) : SoundE Try.prog glob (E_spec_CountResults k) ∧ NatE (E_spec_CountResults k) := tab_cons (s_spec_CountResults k) (E_spec_kCounts_ok k)
/-- impl.inRange -/
def cx_impl_inRange : Cx := { N := 15, G := glob, C := tys, ad := fun d => false, wk := false, dp := true }
def F_impl_inRange (k : Nat) : FArg (.c (.val (.int .i64)) (.c (.val (.int .i64)) (.c (.val (.int .i64)) .e))) := fun x K => impl_inRange x.1 x.2.1 x.2.2.1 (fun (r0 : Bool) => K [⟨.bool, r0, true⟩])
theorem s_impl_inRange (k : Nat) : SoundF Try.prog glob 48 (ftab (.c (.val (.int .i64)) (.c (.val (.int .i64)) (.c (.val (.int .i64)) .e))) (F_impl_inRange k)) :=
  fun_ok (cx := cx_impl_inRange) (by kernel_rfl) ⟨types, (E_spec_CountResults_ok k).1, (E_spec_CountResults_ok k).2, mixed, rfl⟩ Try.func48 rfl (LoopsOK.nil) [] (by kernel_rfl) (fun x K => by kernel_rfl)
def E_impl_inRange (k : Nat) : Tbl := tcons 48 (ftab (.c (.val (.int .i64)) (.c (.val (.int .i64)) (.c (.val (.int .i64)) .e))) (F_impl_inRange k)) (E_spec_CountResults k)
theorem E_impl_inRange_ok (k : Nat) : SoundE Try.prog glob (E_impl_inRange k) ∧ NatE (E_impl_inRange k) := tab_cons (s_impl_inRange k) (E_spec_CountResults_ok k)
/-- impl.isResult -/
def cx_impl_isResult : Cx := { N := 5, G := glob, C := tys, ad := fun d => Nat.beq d 4, wk := false, dp := true }
def F_impl_isResult (k : Nat) : FArg (.c (.val (.int .i64)) .e) := fun x K => impl_isResult x.1 (fun (r0 : Bool) => K [⟨.bool, r0, true⟩])
theorem s_impl_isResult (k : Nat) : SoundF Try.prog glob 51 (ftab (.c (.val (.int .i64)) .e) (F_impl_isResult k)) :=
  fun_ok (cx := cx_impl_isResult) (by kernel_rfl) ⟨types, (E_impl_inRange_ok k).1, (E_impl_inRange_ok k).2, mixed, rfl⟩ Try.func51 rfl (LoopsOK.nil) [] (by kernel_rfl) (fun x K => by kernel_rfl)
def E_impl_isResult (k : Nat) : Tbl := tcons 51 (ftab (.c (.val (.int .i64)) .e) (F_impl_isResult k)) (E_impl_inRange k)
theorem E_impl_isResult_ok (k : Nat) : SoundE Try.prog glob (E_impl_isResult k) ∧ NatE (E_impl_isResult k) := tab_cons (s_impl_isResult k) (E_impl_inRange_ok k)
/-- impl.IsCombatTable$1 -/
def cx_impl_IsCombatTable_1 : Cx := { N := 6, G := glob, C := tys, ad := fun d => Nat.beq d 4, wk := false, dp := true }
def F_impl_IsCombatTable_1 (k : Nat) : FArg (.c (.val (.int .i64)) .e) := fun x K => impl_IsCombatTable_1 x.1 (fun (r0 : Bool) => K [⟨.bool, r0, true⟩])
theorem s_impl_IsCombatTable_1 (k : Nat) : SoundF Try.prog glob 50 (ftab (.c (.val (.int .i64)) .e) (F_impl_IsCombatTable_1 k)) :=
  fun_ok (cx := cx_impl_IsCombatTable_1) (by kernel_rfl) ⟨types, (E_impl_isResult_ok k).1, (E_impl_isResult_ok k).2, mixed, rfl⟩ Try.func50 rfl (LoopsOK.nil) [] (by kernel_rfl) (fun x K => by kernel_rfl)
def E_impl_IsCombatTable_1 (k : Nat) : Tbl := tcons 50 (ftab (.c (.val (.int .i64)) .e) (F_impl_IsCombatTable_1 k)) (E_impl_isResult k)
theorem E_impl_IsCombatTable_1_ok (k : Nat) : SoundE Try.prog glob (E_impl_IsCombatTable_1 k) ∧ NatE (E_impl_IsCombatTable_1 k) := tab_cons (s_impl_IsCombatTable_1 k) (E_impl_isResult_ok k)
/-- slices.IndexFunc[[]int,int] -/
def cx_slices_IndexFunc_Sint_int__impl_IsCombatTable_1 : Cx := { N := 19, G := glob, C := tys, ad := fun d => false, wk := false }
def sp_slices_IndexFunc_Sint_int__impl_IsCombatTable_1_l0 : LSp where
  cv := []
  ts := [(0, .val (.sl (.int .i64))), (1, .fn 50 .e), (7, .val (.int .i64)), (8, .val (.int .i64))]
  ids := []
  tx := fun e => match e with | .exit i => bif Nat.beq i 0 then [] else [] | .ret => [4] | .normal => []
  ix := fun e => match e with | .exit i => bif Nat.beq i 0 then [] else [] | .ret => [] | .normal => []
def F_slices_IndexFunc_Sint_int__impl_IsCombatTable_1_l0 (k : Nat) : LArg sp_slices_IndexFunc_Sint_int__impl_IsCombatTable_1_l0 := fun K n x y => slices_IndexFunc_Sint_int__impl_IsCombatTable_1_l0 k (K (.exit 0) (mkSt [] [])) (fun (y0 : Int) => K (.ret) (mkSt [(4, .val (.int .i64) y0)] [])) n x.1 x.2.2.1 x.2.2.2.1
def LO_slices_IndexFunc_Sint_int__impl_IsCombatTable_1_l0 (k : Nat) : LTbl := (lcons 2 (ltab sp_slices_IndexFunc_Sint_int__impl_IsCombatTable_1_l0 (F_slices_IndexFunc_Sint_int__impl_IsCombatTable_1_l0 k) k) lnil)
theorem lk_slices_IndexFunc_Sint_int__impl_IsCombatTable_1_l0 (k : Nat) : LoopsOK Try.prog glob (E_impl_IsCombatTable_1 k) cx_slices_IndexFunc_Sint_int__impl_IsCombatTable_1 (LO_slices_IndexFunc_Sint_int__impl_IsCombatTable_1_l0 k) ((2, (loopB Try.f86 2)) :: []) :=
  LoopsOK.cons (LoopsOK.nil) (E_impl_IsCombatTable_1_ok k).2 (F := F_slices_IndexFunc_Sint_int__impl_IsCombatTable_1_l0 k) k [] (by kernel_rfl) (by kernel_rfl) (fun K x y => rfl) (fun n x y K => by kernel_rfl)
def F_slices_IndexFunc_Sint_int__impl_IsCombatTable_1 (k : Nat) : FArg (.c (.val (.sl (.int .i64))) (.c (.fn 50 .e) .e)) := fun x K => slices_IndexFunc_Sint_int__impl_IsCombatTable_1 k x.1 (fun (r0 : Int) => K [⟨(.int .i64), r0, true⟩])
theorem s_slices_IndexFunc_Sint_int__impl_IsCombatTable_1 (k : Nat) : SoundF Try.prog glob 86 (ftab (.c (.val (.sl (.int .i64))) (.c (.fn 50 .e) .e)) (F_slices_IndexFunc_Sint_int__impl_IsCombatTable_1 k)) :=
  fun_ok (cx := cx_slices_IndexFunc_Sint_int__impl_IsCombatTable_1) (by kernel_rfl) ⟨types, (E_impl_IsCombatTable_1_ok k).1, (E_impl_IsCombatTable_1_ok k).2, mixed, rfl⟩ Try.func86 rfl (lk_slices_IndexFunc_Sint_int__impl_IsCombatTable_1_l0 k) [0] (by kernel_rfl) (fun x K => by kernel_rfl)
def E_slices_IndexFunc_Sint_int__impl_IsCombatTable_1 (k : Nat) : Tbl := tcons 86 (ftab (.c (.val (.sl (.int .i64))) (.c (.fn 50 .e) .e)) (F_slices_IndexFunc_Sint_int__impl_IsCombatTable_1 k)) (E_impl_IsCombatTable_1 k)
theorem E_slices_IndexFunc_Sint_int__impl_IsCombatTable_1_ok (k : Nat) : SoundE Try.prog glob (E_slices_IndexFunc_Sint_int__impl_IsCombatTable_1 k) ∧ NatE (E_slices_IndexFunc_Sint_int__impl_IsCombatTable_1 k) := tab_cons (s_slices_IndexFunc_Sint_int__impl_IsCombatTable_1 k) (E_impl_IsCombatTable_1_ok k)
/-- slices.ContainsFunc[[]int,int] -/
def cx_slices_ContainsFunc_Sint_int__impl_IsCombatTable_1 : Cx := { N := 9, G := glob, C := tys, ad := fun d => false, wk := false }
def F_slices_ContainsFunc_Sint_int__impl_IsCombatTable_1 (k : Nat) : FArg (.c (.val (.sl (.int .i64))) (.c (.fn 50 .e) .e)) := fun x K => slices_ContainsFunc_Sint_int__impl_IsCombatTable_1 k x.1 (fun (r0 : Bool) => K [⟨.bool, r0, true⟩])
theorem s_slices_ContainsFunc_Sint_int__impl_IsCombatTable_1 (k : Nat) : SoundF Try.prog glob 49 (ftab (.c (.val (.sl (.int .i64))) (.c (.fn 50 .e) .e)) (F_slices_ContainsFunc_Sint_int__impl_IsCombatTable_1 k)) :=
  fun_ok (cx := cx_slices_ContainsFunc_Sint_int__impl_IsCombatTable_1) (by kernel_rfl) ⟨types, (E_slices_IndexFunc_Sint_int__impl_IsCombatTable_1_ok k).1, (E_slices_IndexFunc_Sint_int__impl_IsCombatTable_1_ok k).2, mixed, rfl⟩ Try.func49 rfl (LoopsOK.nil) [] (by kernel_rfl) (fun x K => by kernel_rfl)
def E_slices_ContainsFunc_Sint_int__impl_IsCombatTable_1 (k : Nat) : Tbl := tcons 49 (ftab (.c (.val (.sl (.int .i64))) (.c (.fn 50 .e) .e)) (F_slices_ContainsFunc_Sint_int__impl_IsCombatTable_1 k)) (E_slices_IndexFunc_Sint_int__impl_IsCombatTable_1 k)
theorem E_slices_ContainsFunc_Sint_int__impl_IsCombatTable_1_ok (k : Nat) : SoundE Try.prog glob (E_slices_ContainsFunc_Sint_int__impl_IsCombatTable_1 k) ∧ NatE (E_slices_ContainsFunc_Sint_int__impl_IsCombatTable_1 k) := tab_cons (s_slices_ContainsFunc_Sint_int__impl_IsCombatTable_1 k) (E_slices_IndexFunc_Sint_int__impl_IsCombatTable_1_ok k)
/-- impl.IsCombatTable -/
def cx_impl_IsCombatTable : Cx := { N := 90, G := glob, C := tys, ad := fun d => Nat.beq d 10 || Nat.beq d 15 || Nat.beq d 38 || Nat.beq d 43 || Nat.beq d 87, wk := false, dp := true }
def sp_impl_IsCombatTable_l0 : LSp where
  cv := []
  ts := [(1, .ptr 1), (29, .val (.sl (.st (.pair (.int .i64) (.int .i64))))), (30, .val (.int .i64)), (31, .val (.int .i64))]
  ids := [(1, .box (.st (.pair (.sl (.st (.pair (.int .i64) (.int .i64)))) (.pair (.int .i64) (.sl (.sl (.int .i64)))))) (.val (.st (.pair (.sl (.st (.pair (.int .i64) (.int .i64)))) (.pair (.int .i64) (.sl (.sl (.int .i64))))))))]
  tx := fun e => match e with | .exit i => bif Nat.beq i 0 then [1] else [] | .ret => [2] | .normal => []
  ix := fun e => match e with | .exit i => bif Nat.beq i 0 then [1] else [] | .ret => [] | .normal => []
def F_impl_IsCombatTable_l0 (k : Nat) : LArg sp_impl_IsCombatTable_l0 := fun K n x y => impl_IsCombatTable_l0 k (fun (y0 : (List (Int × Int)) × Int × List (List Int)) => K (.exit 0) (mkSt [(1, .ptr 1 1 [])] [(1, some (.box (.st (.pair (.sl (.st (.pair (.int .i64) (.int .i64)))) (.pair (.int .i64) (.sl (.sl (.int .i64)))))) (.val (.st (.pair (.sl (.st (.pair (.int .i64) (.int .i64)))) (.pair (.int .i64) (.sl (.sl (.int .i64)))))) y0)))])) (fun (y0 : Bool) => K (.ret) (mkSt [(2, .val .bool y0)] [])) n x.2.1 x.2.2.1 x.2.2.2.1 y.1
def LO_impl_IsCombatTable_l0 (k : Nat) : LTbl := (lcons 4 (ltab sp_impl_IsCombatTable_l0 (F_impl_IsCombatTable_l0 k) k) lnil)
theorem lk_impl_IsCombatTable_l0 (k : Nat) : LoopsOK Try.prog glob (E_slices_ContainsFunc_Sint_int__impl_IsCombatTable_1 k) cx_impl_IsCombatTable (LO_impl_IsCombatTable_l0 k) ((4, (loopB Try.f16 4)) :: []) :=
  LoopsOK.cons (LoopsOK.nil) (E_slices_ContainsFunc_Sint_int__impl_IsCombatTable_1_ok k).2 (F := F_impl_IsCombatTable_l0 k) k [] (by kernel_rfl) (by kernel_rfl) (fun K x y => rfl) (fun n x y K => by kernel_rfl)
def sp_impl_IsCombatTable_l1 : LSp where
  cv := []
  ts := [(1, .ptr 1), (73, .val (.sl (.sl (.int .i64)))), (74, .val (.int .i64)), (75, .val (.int .i64))]
  ids := [(1, .box (.st (.pair (.sl (.st (.pair (.int .i64) (.int .i64)))) (.pair (.int .i64) (.sl (.sl (.int .i64)))))) (.val (.st (.pair (.sl (.st (.pair (.int .i64) (.int .i64)))) (.pair (.int .i64) (.sl (.sl (.int .i64))))))))]
  tx := fun e => match e with | .exit i => bif Nat.beq i 2 then [] else [] | .ret => [2] | .normal => []
  ix := fun e => match e with | .exit i => bif Nat.beq i 2 then [] else [] | .ret => [] | .normal => []
def F_impl_IsCombatTable_l1 (k : Nat) : LArg sp_impl_IsCombatTable_l1 := fun K n x y => impl_IsCombatTable_l1 k (K (.exit 2) (mkSt [] [])) (fun (y0 : Bool) => K (.ret) (mkSt [(2, .val .bool y0)] [])) n x.2.1 x.2.2.1 x.2.2.2.1 y.1
def LO_impl_IsCombatTable_l1 (k : Nat) : LTbl := (lcons 12 (ltab sp_impl_IsCombatTable_l1 (F_impl_IsCombatTable_l1 k) k) (LO_impl_IsCombatTable_l0 k))
theorem lk_impl_IsCombatTable_l1 (k : Nat) : LoopsOK Try.prog glob (E_slices_ContainsFunc_Sint_int__impl_IsCombatTable_1 k) cx_impl_IsCombatTable (LO_impl_IsCombatTable_l1 k) ((12, (loopB Try.f16 12)) :: ((4, (loopB Try.f16 4)) :: [])) :=
  LoopsOK.cons (lk_impl_IsCombatTable_l0 k) (E_slices_ContainsFunc_Sint_int__impl_IsCombatTable_1_ok k).2 (F := F_impl_IsCombatTable_l1 k) k [] (by kernel_rfl) (by kernel_rfl) (fun K x y => rfl) (fun n x y K => by kernel_rfl)
def F_impl_IsCombatTable (k : Nat) : FArg (.c (.val (.st (.pair (.sl (.st (.pair (.int .i64) (.int .i64)))) (.pair (.int .i64) (.sl (.sl (.int .i64))))))) .e) := fun x K => impl_IsCombatTable k x.1 (fun (r0 : Bool) => K [⟨.bool, r0, true⟩])
theorem s_impl_IsCombatTable (k : Nat) : SoundF Try.prog glob 16 (ftab (.c (.val (.st (.pair (.sl (.st (.pair (.int .i64) (.int .i64)))) (.pair (.int .i64) (.sl (.sl (.int .i64))))))) .e) (F_impl_IsCombatTable k)) :=
  fun_ok (cx := cx_impl_IsCombatTable) (by kernel_rfl) ⟨types, (E_slices_ContainsFunc_Sint_int__impl_IsCombatTable_1_ok k).1, (E_slices_ContainsFunc_Sint_int__impl_IsCombatTable_1_ok k).2, mixed, rfl⟩ Try.func16 rfl (lk_impl_IsCombatTable_l1 k) [1, 0] (by kernel_rfl) (fun x K => by kernel_rfl)
def E_impl_IsCombatTable (k : Nat) : Tbl := tcons 16 (ftab (.c (.val (.st (.pair (.sl (.st (.pair (.int .i64) (.int .i64)))) (.pair (.int .i64) (.sl (.sl (.int .i64))))))) .e) (F_impl_IsCombatTable k)) (E_slices_ContainsFunc_Sint_int__impl_IsCombatTable_1 k)
theorem E_impl_IsCombatTable_ok (k : Nat) : SoundE Try.prog glob (E_impl_IsCombatTable k) ∧ NatE (E_impl_IsCombatTable k) := tab_cons (s_impl_IsCombatTable k) (E_slices_ContainsFunc_Sint_int__impl_IsCombatTable_1_ok k)
/-- impl.isIndex -/
def cx_impl_isIndex : Cx := { N := 9, G := glob, C := tys, ad := fun d => Nat.beq d 8, wk := false, dp := true }
def F_impl_isIndex (k : Nat) : FArg (.c (.val (.int .i64)) (.c (.val (.int .i64)) .e)) := fun x K => impl_isIndex x.1 x.2.1 (fun (r0 : Bool) => K [⟨.bool, r0, true⟩])
theorem s_impl_isIndex (k : Nat) : SoundF Try.prog glob 88 (ftab (.c (.val (.int .i64)) (.c (.val (.int .i64)) .e)) (F_impl_isIndex k)) :=
  fun_ok (cx := cx_impl_isIndex) (by kernel_rfl) ⟨types, (E_impl_IsCombatTable_ok k).1, (E_impl_IsCombatTable_ok k).2, mixed, rfl⟩ Try.func88 rfl (LoopsOK.nil) [] (by kernel_rfl) (fun x K => by kernel_rfl)
def E_impl_isIndex (k : Nat) : Tbl := tcons 88 (ftab (.c (.val (.int .i64)) (.c (.val (.int .i64)) .e)) (F_impl_isIndex k)) (E_impl_IsCombatTable k)
theorem E_impl_isIndex_ok (k : Nat) : SoundE Try.prog glob (E_impl_isIndex k) ∧ NatE (E_impl_isIndex k) := tab_cons (s_impl_isIndex k) (E_impl_IsCombatTable_ok k)
/-- impl.isColumn -/
def cx_impl_isColumn : Cx := { N := 14, G := glob, C := tys, ad := fun d => Nat.beq d 6 || Nat.beq d 12, wk := false, dp := true }
def F_impl_isColumn (k : Nat) : FArg (.c (.val (.st (.pair (.sl (.st (.pair (.int .i64) (.int .i64)))) (.pair (.int .i64) (.sl (.sl (.int .i64))))))) (.c (.val (.int .i64)) .e)) := fun x K => impl_isColumn k x.1 x.2.1 (fun (r0 : Bool) => K [⟨.bool, r0, true⟩])
theorem s_impl_isColumn (k : Nat) : SoundF Try.prog glob 57 (ftab (.c (.val (.st (.pair (.sl (.st (.pair (.int .i64) (.int .i64)))) (.pair (.int .i64) (.sl (.sl (.int .i64))))))) (.c (.val (.int .i64)) .e)) (F_impl_isColumn k)) :=
  fun_ok (cx := cx_impl_isColumn) (by kernel_rfl) ⟨types, (E_impl_isIndex_ok k).1, (E_impl_isIndex_ok k).2, mixed, rfl⟩ Try.func57 rfl (LoopsOK.nil) [] (by kernel_rfl) (fun x K => by kernel_rfl)
def E_impl_isColumn (k : Nat) : Tbl := tcons 57 (ftab (.c (.val (.st (.pair (.sl (.st (.pair (.int .i64) (.int .i64)))) (.pair (.int .i64) (.sl (.sl (.int .i64))))))) (.c (.val (.int .i64)) .e)) (F_impl_isColumn k)) (E_impl_isIndex k)
theorem E_impl_isColumn_ok (k : Nat) : SoundE Try.prog glob (E_impl_isColumn k) ∧ NatE (E_impl_isColumn k) := tab_cons (s_impl_isColumn k) (E_impl_isIndex_ok k)
/-- impl.absOf -/
def cx_impl_absOf : Cx := { N := 8, G := glob, C := tys, ad := fun d => false, wk := false, dp := true }
def F_impl_absOf (k : Nat) : FArg (.c (.val (.int .i64)) .e) := fun x K => impl_absOf x.1 (fun (r0 : Int) => K [⟨(.int .i64), r0, true⟩])
theorem s_impl_absOf (k : Nat) : SoundF Try.prog glob 92 (ftab (.c (.val (.int .i64)) .e) (F_impl_absOf k)) :=
  fun_ok (cx := cx_impl_absOf) (by kernel_rfl) ⟨types, (E_impl_isColumn_ok k).1, (E_impl_isColumn_ok k).2, mixed, rfl⟩ Try.func92 rfl (LoopsOK.nil) [] (by kernel_rfl) (fun x K => by kernel_rfl)
def E_impl_absOf (k : Nat) : Tbl := tcons 92 (ftab (.c (.val (.int .i64)) .e) (F_impl_absOf k)) (E_impl_isColumn k)
theorem E_impl_absOf_ok (k : Nat) : SoundE Try.prog glob (E_impl_absOf k) ∧ NatE (E_impl_absOf k) := tab_cons (s_impl_absOf k) (E_impl_isColumn_ok k)
/-- impl.waysFor -/
def cx_impl_waysFor : Cx := { N := 12, G := glob, C := tys, ad := fun d => Nat.beq d 10, wk := false, dp := true }
def F_impl_waysFor (k : Nat) : FArg (.c (.val (.st (.pair (.sl (.st (.pair (.int .i64) (.int .i64)))) (.pair (.int .i64) (.sl (.sl (.int .i64))))))) (.c (.val (.int .i64)) .e)) := fun x K => impl_waysFor x.1 x.2.1 (fun (r0 : Int) => K [⟨(.int .i64), r0, true⟩])
theorem s_impl_waysFor (k : Nat) : SoundF Try.prog glob 65 (ftab (.c (.val (.st (.pair (.sl (.st (.pair (.int .i64) (.int .i64)))) (.pair (.int .i64) (.sl (.sl (.int .i64))))))) (.c (.val (.int .i64)) .e)) (F_impl_waysFor k)) :=
  fun_ok (cx := cx_impl_waysFor) (by kernel_rfl) ⟨types, (E_impl_absOf_ok k).1, (E_impl_absOf_ok k).2, mixed, rfl⟩ Try.func65 rfl (LoopsOK.nil) [] (by kernel_rfl) (fun x K => by kernel_rfl)
def E_impl_waysFor (k : Nat) : Tbl := tcons 65 (ftab (.c (.val (.st (.pair (.sl (.st (.pair (.int .i64) (.int .i64)))) (.pair (.int .i64) (.sl (.sl (.int .i64))))))) (.c (.val (.int .i64)) .e)) (F_impl_waysFor k)) (E_impl_absOf k)
theorem E_impl_waysFor_ok (k : Nat) : SoundE Try.prog glob (E_impl_waysFor k) ∧ NatE (E_impl_waysFor k) := tab_cons (s_impl_waysFor k) (E_impl_absOf_ok k)
/-- impl.CountResults -/
def cx_impl_CountResults : Cx := { N := 36, G := glob, C := tys, ad := fun d => Nat.beq d 11, wk := false, dp := true }
def sp_impl_CountResults_l0 : LSp where
  cv := []
  ts := [(1, .val (.int .i64)), (2, .ptr 2), (6, .own 13), (15, .val (.sl (.sl (.int .i64)))), (16, .val (.int .i64)), (17, .val (.int .i64))]
  ids := [(2, .box (.st (.pair (.sl (.st (.pair (.int .i64) (.int .i64)))) (.pair (.int .i64) (.sl (.sl (.int .i64)))))) (.val (.st (.pair (.sl (.st (.pair (.int .i64) (.int .i64)))) (.pair (.int .i64) (.sl (.sl (.int .i64)))))))), (13, .row (.int .i64))]
  tx := fun e => match e with | .exit i => bif Nat.beq i 0 then [6] else [] | .ret => [] | .normal => []
  ix := fun e => match e with | .exit i => bif Nat.beq i 0 then [13] else [] | .ret => [] | .normal => []
def F_impl_CountResults_l0 (k : Nat) : LArg sp_impl_CountResults_l0 := fun K n x y => impl_CountResults_l0 k (fun (y0 : List Int) => K (.exit 0) (mkSt [(6, .own 13 1)] [(13, some (.row (.int .i64) y0))])) n x.1 x.2.2.2.1 x.2.2.2.2.1 x.2.2.2.2.2.1 y.1 y.2.1
def LO_impl_CountResults_l0 (k : Nat) : LTbl := (lcons 5 (ltab sp_impl_CountResults_l0 (F_impl_CountResults_l0 k) k) lnil)
theorem lk_impl_CountResults_l0 (k : Nat) : LoopsOK Try.prog glob (E_impl_waysFor k) cx_impl_CountResults (LO_impl_CountResults_l0 k) ((5, (loopB Try.f29 5)) :: []) :=
  LoopsOK.cons (LoopsOK.nil) (E_impl_waysFor_ok k).2 (F := F_impl_CountResults_l0 k) k [] (by kernel_rfl) (by kernel_rfl) (fun K x y => rfl) (fun n x y K => by kernel_rfl)
def F_impl_CountResults (k : Nat) : FArg (.c (.val (.st (.pair (.sl (.st (.pair (.int .i64) (.int .i64)))) (.pair (.int .i64) (.sl (.sl (.int .i64))))))) (.c (.val (.int .i64)) .e)) := fun x K => impl_CountResults k x.1 x.2.1 (fun (r0 : List Int) (r1 : Bool) => K [⟨(.sl (.int .i64)), r0, true⟩, ⟨.bool, r1, true⟩])
theorem s_impl_CountResults (k : Nat) : SoundF Try.prog glob 29 (ftab (.c (.val (.st (.pair (.sl (.st (.pair (.int .i64) (.int .i64)))) (.pair (.int .i64) (.sl (.sl (.int .i64))))))) (.c (.val (.int .i64)) .e)) (F_impl_CountResults k)) :=
  fun_ok (cx := cx_impl_CountResults) (by kernel_rfl) ⟨types, (E_impl_waysFor_ok k).1, (E_impl_waysFor_ok k).2, mixed, rfl⟩ Try.func29 rfl (lk_impl_CountResults_l0 k) [0] (by kernel_rfl) (fun x K => by kernel_rfl)
def E_impl_CountResults (k : Nat) : Tbl := tcons 29 (ftab (.c (.val (.st (.pair (.sl (.st (.pair (.int .i64) (.int .i64)))) (.pair (.int .i64) (.sl (.sl (.int .i64))))))) (.c (.val (.int .i64)) .e)) (F_impl_CountResults k)) (E_impl_waysFor k)
theorem E_impl_CountResults_ok (k : Nat) : SoundE Try.prog glob (E_impl_CountResults k) ∧ NatE (E_impl_CountResults k) := tab_cons (s_impl_CountResults k) (E_impl_waysFor_ok k)
/-- laws.eqIntS -/
def cx_laws_eqIntS : Cx := { N := 26, G := glob, C := tys, ad := fun d => false, wk := false }
def sp_laws_eqIntS_l0 : LSp where
  cv := []
  ts := [(0, .val (.sl (.int .i64))), (1, .val (.sl (.int .i64))), (5, .val (.int .i64))]
  ids := []
  tx := fun e => match e with | .exit i => bif Nat.beq i 0 then [] else [] | .ret => [4] | .normal => []
  ix := fun e => match e with | .exit i => bif Nat.beq i 0 then [] else [] | .ret => [] | .normal => []
def F_laws_eqIntS_l0 (k : Nat) : LArg sp_laws_eqIntS_l0 := fun K n x y => laws_eqIntS_l0 k (K (.exit 0) (mkSt [] [])) (fun (y0 : Bool) => K (.ret) (mkSt [(4, .val .bool y0)] [])) n x.1 x.2.1 x.2.2.1
def LO_laws_eqIntS_l0 (k : Nat) : LTbl := (lcons 4 (ltab sp_laws_eqIntS_l0 (F_laws_eqIntS_l0 k) k) lnil)
theorem lk_laws_eqIntS_l0 (k : Nat) : LoopsOK Try.prog glob (E_impl_CountResults k) cx_laws_eqIntS (LO_laws_eqIntS_l0 k) ((4, (loopB Try.f30 4)) :: []) :=
  LoopsOK.cons (LoopsOK.nil) (E_impl_CountResults_ok k).2 (F := F_laws_eqIntS_l0 k) k [] (by kernel_rfl) (by kernel_rfl) (fun K x y => rfl) (fun n x y K => by kernel_rfl)
def F_laws_eqIntS (k : Nat) : FArg (.c (.val (.sl (.int .i64))) (.c (.val (.sl (.int .i64))) .e)) := fun x K => laws_eqIntS k x.1 x.2.1 (fun (r0 : Bool) => K [⟨.bool, r0, true⟩])
theorem s_laws_eqIntS (k : Nat) : SoundF Try.prog glob 30 (ftab (.c (.val (.sl (.int .i64))) (.c (.val (.sl (.int .i64))) .e)) (F_laws_eqIntS k)) :=
  fun_ok (cx := cx_laws_eqIntS) (by kernel_rfl) ⟨types, (E_impl_CountResults_ok k).1, (E_impl_CountResults_ok k).2, mixed, rfl⟩ Try.func30 rfl (lk_laws_eqIntS_l0 k) [0] (by kernel_rfl) (fun x K => by kernel_rfl)
def E_laws_eqIntS (k : Nat) : Tbl := tcons 30 (ftab (.c (.val (.sl (.int .i64))) (.c (.val (.sl (.int .i64))) .e)) (F_laws_eqIntS k)) (E_impl_CountResults k)
theorem E_laws_eqIntS_ok (k : Nat) : SoundE Try.prog glob (E_laws_eqIntS k) ∧ NatE (E_laws_eqIntS k) := tab_cons (s_laws_eqIntS k) (E_impl_CountResults_ok k)
/-- laws.eqOdds -/
def cx_laws_eqOdds : Cx := { N := 15, G := glob, C := tys, ad := fun d => false, wk := false }
def F_laws_eqOdds (k : Nat) : FArg (.c (.val (.st (.pair (.int .i64) (.int .i64)))) (.c (.val (.st (.pair (.int .i64) (.int .i64)))) .e)) := fun x K => laws_eqOdds x.1 x.2.1 (fun (r0 : Bool) => K [⟨.bool, r0, true⟩])
theorem s_laws_eqOdds (k : Nat) : SoundF Try.prog glob 87 (ftab (.c (.val (.st (.pair (.int .i64) (.int .i64)))) (.c (.val (.st (.pair (.int .i64) (.int .i64)))) .e)) (F_laws_eqOdds k)) :=
  fun_ok (cx := cx_laws_eqOdds) (by kernel_rfl) ⟨types, (E_laws_eqIntS_ok k).1, (E_laws_eqIntS_ok k).2, mixed, rfl⟩ Try.func87 rfl (LoopsOK.nil) [] (by kernel_rfl) (fun x K => by kernel_rfl)
def E_laws_eqOdds (k : Nat) : Tbl := tcons 87 (ftab (.c (.val (.st (.pair (.int .i64) (.int .i64)))) (.c (.val (.st (.pair (.int .i64) (.int .i64)))) .e)) (F_laws_eqOdds k)) (E_laws_eqIntS k)
theorem E_laws_eqOdds_ok (k : Nat) : SoundE Try.prog glob (E_laws_eqOdds k) ∧ NatE (E_laws_eqOdds k) := tab_cons (s_laws_eqOdds k) (E_laws_eqIntS_ok k)
/-- laws.eqOddsS -/
def cx_laws_eqOddsS : Cx := { N := 27, G := glob, C := tys, ad := fun d => false, wk := false }
def sp_laws_eqOddsS_l0 : LSp where
  cv := []
  ts := [(0, .val (.sl (.st (.pair (.int .i64) (.int .i64))))), (1, .val (.sl (.st (.pair (.int .i64) (.int .i64))))), (5, .val (.int .i64))]
  ids := []
  tx := fun e => match e with | .exit i => bif Nat.beq i 0 then [] else [] | .ret => [4] | .normal => []
  ix := fun e => match e with | .exit i => bif Nat.beq i 0 then [] else [] | .ret => [] | .normal => []
def F_laws_eqOddsS_l0 (k : Nat) : LArg sp_laws_eqOddsS_l0 := fun K n x y => laws_eqOddsS_l0 k (K (.exit 0) (mkSt [] [])) (fun (y0 : Bool) => K (.ret) (mkSt [(4, .val .bool y0)] [])) n x.1 x.2.1 x.2.2.1
def LO_laws_eqOddsS_l0 (k : Nat) : LTbl := (lcons 4 (ltab sp_laws_eqOddsS_l0 (F_laws_eqOddsS_l0 k) k) lnil)
theorem lk_laws_eqOddsS_l0 (k : Nat) : LoopsOK Try.prog glob (E_laws_eqOdds k) cx_laws_eqOddsS (LO_laws_eqOddsS_l0 k) ((4, (loopB Try.f52 4)) :: []) :=
  LoopsOK.cons (LoopsOK.nil) (E_laws_eqOdds_ok k).2 (F := F_laws_eqOddsS_l0 k) k [] (by kernel_rfl) (by kernel_rfl) (fun K x y => rfl) (fun n x y K => by kernel_rfl)
def F_laws_eqOddsS (k : Nat) : FArg (.c (.val (.sl (.st (.pair (.int .i64) (.int .i64))))) (.c (.val (.sl (.st (.pair (.int .i64) (.int .i64))))) .e)) := fun x K => laws_eqOddsS k x.1 x.2.1 (fun (r0 : Bool) => K [⟨.bool, r0, true⟩])
theorem s_laws_eqOddsS (k : Nat) : SoundF Try.prog glob 52 (ftab (.c (.val (.sl (.st (.pair (.int .i64) (.int .i64))))) (.c (.val (.sl (.st (.pair (.int .i64) (.int .i64))))) .e)) (F_laws_eqOddsS k)) :=
  fun_ok (cx := cx_laws_eqOddsS) (by kernel_rfl) ⟨types, (E_laws_eqOdds_ok k).1, (E_laws_eqOdds_ok k).2, mixed, rfl⟩ Try.func52 rfl (lk_laws_eqOddsS_l0 k) [0] (by kernel_rfl) (fun x K => by kernel_rfl)
def E_laws_eqOddsS (k : Nat) : Tbl := tcons 52 (ftab (.c (.val (.sl (.st (.pair (.int .i64) (.int .i64))))) (.c (.val (.sl (.st (.pair (.int .i64) (.int .i64))))) .e)) (F_laws_eqOddsS k)) (E_laws_eqOdds k)
theorem E_laws_eqOddsS_ok (k : Nat) : SoundE Try.prog glob (E_laws_eqOddsS k) ∧ NatE (E_laws_eqOddsS k) := tab_cons (s_laws_eqOddsS k) (E_laws_eqOdds_ok k)
/-- laws.eqIntSS -/
def cx_laws_eqIntSS : Cx := { N := 27, G := glob, C := tys, ad := fun d => false, wk := false }
def sp_laws_eqIntSS_l0 : LSp where
  cv := []
  ts := [(0, .val (.sl (.sl (.int .i64)))), (1, .val (.sl (.sl (.int .i64)))), (5, .val (.int .i64))]
  ids := []
  tx := fun e => match e with | .exit i => bif Nat.beq i 0 then [] else [] | .ret => [4] | .normal => []
  ix := fun e => match e with | .exit i => bif Nat.beq i 0 then [] else [] | .ret => [] | .normal => []
def F_laws_eqIntSS_l0 (k : Nat) : LArg sp_laws_eqIntSS_l0 := fun K n x y => laws_eqIntSS_l0 k (K (.exit 0) (mkSt [] [])) (fun (y0 : Bool) => K (.ret) (mkSt [(4, .val .bool y0)] [])) n x.1 x.2.1 x.2.2.1
def LO_laws_eqIntSS_l0 (k : Nat) : LTbl := (lcons 4 (ltab sp_laws_eqIntSS_l0 (F_laws_eqIntSS_l0 k) k) lnil)
theorem lk_laws_eqIntSS_l0 (k : Nat) : LoopsOK Try.prog glob (E_laws_eqOddsS k) cx_laws_eqIntSS (LO_laws_eqIntSS_l0 k) ((4, (loopB Try.f53 4)) :: []) :=
  LoopsOK.cons (LoopsOK.nil) (E_laws_eqOddsS_ok k).2 (F := F_laws_eqIntSS_l0 k) k [] (by kernel_rfl) (by kernel_rfl) (fun K x y => rfl) (fun n x y K => by kernel_rfl)
def F_laws_eqIntSS (k : Nat) : FArg (.c (.val (.sl (.sl (.int .i64)))) (.c (.val (.sl (.sl (.int .i64)))) .e)) := fun x K => laws_eqIntSS k x.1 x.2.1 (fun (r0 : Bool) => K [⟨.bool, r0, true⟩])
theorem s_laws_eqIntSS (k : Nat) : SoundF Try.prog glob 53 (ftab (.c (.val (.sl (.sl (.int .i64)))) (.c (.val (.sl (.sl (.int .i64)))) .e)) (F_laws_eqIntSS k)) :=
  fun_ok (cx := cx_laws_eqIntSS) (by kernel_rfl) ⟨types, (E_laws_eqOddsS_ok k).1, (E_laws_eqOddsS_ok k).2, mixed, rfl⟩ Try.func53 rfl (lk_laws_eqIntSS_l0 k) [0] (by kernel_rfl) (fun x K => by kernel_rfl)
def E_laws_eqIntSS (k : Nat) : Tbl := tcons 53 (ftab (.c (.val (.sl (.sl (.int .i64)))) (.c (.val (.sl (.sl (.int .i64)))) .e)) (F_laws_eqIntSS k)) (E_laws_eqOddsS k)
theorem E_laws_eqIntSS_ok (k : Nat) : SoundE Try.prog glob (E_laws_eqIntSS k) ∧ NatE (E_laws_eqIntSS k) := tab_cons (s_laws_eqIntSS k) (E_laws_eqOddsS_ok k)
/-- laws.eqCombatTable -/
def cx_laws_eqCombatTable : Cx := { N := 22, G := glob, C := tys, ad := fun d => false, wk := false }
def F_laws_eqCombatTable (k : Nat) : FArg (.c (.val (.st (.pair (.sl (.st (.pair (.int .i64) (.int .i64)))) (.pair (.int .i64) (.sl (.sl (.int .i64))))))) (.c (.val (.st (.pair (.sl (.st (.pair (.int .i64) (.int .i64)))) (.pair (.int .i64) (.sl (.sl (.int .i64))))))) .e)) := fun x K => laws_eqCombatTable k x.1 x.2.1 (fun (r0 : Bool) => K [⟨.bool, r0, true⟩])
theorem s_laws_eqCombatTable (k : Nat) : SoundF Try.prog glob 17 (ftab (.c (.val (.st (.pair (.sl (.st (.pair (.int .i64) (.int .i64)))) (.pair (.int .i64) (.sl (.sl (.int .i64))))))) (.c (.val (.st (.pair (.sl (.st (.pair (.int .i64) (.int .i64)))) (.pair (.int .i64) (.sl (.sl (.int .i64))))))) .e)) (F_laws_eqCombatTable k)) :=
  fun_ok (cx := cx_laws_eqCombatTable) (by kernel_rfl) ⟨types, (E_laws_eqIntSS_ok k).1, (E_laws_eqIntSS_ok k).2, mixed, rfl⟩ Try.func17 rfl (LoopsOK.nil) [] (by kernel_rfl) (fun x K => by kernel_rfl)
def E_laws_eqCombatTable (k : Nat) : Tbl := tcons 17 (ftab (.c (.val (.st (.pair (.sl (.st (.pair (.int .i64) (.int .i64)))) (.pair (.int .i64) (.sl (.sl (.int .i64))))))) (.c (.val (.st (.pair (.sl (.st (.pair (.int .i64) (.int .i64)))) (.pair (.int .i64) (.sl (.sl (.int .i64))))))) .e)) (F_laws_eqCombatTable k)) (E_laws_eqIntSS k)
theorem E_laws_eqCombatTable_ok (k : Nat) : SoundE Try.prog glob (E_laws_eqCombatTable k) ∧ NatE (E_laws_eqCombatTable k) := tab_cons (s_laws_eqCombatTable k) (E_laws_eqIntSS_ok k)
/-- laws.markOddsS -/
def cx_laws_markOddsS_in : Cx := { N := 27, G := glob, C := tys, ad := fun d => false, wk := true, dp := true }
def sp_laws_markOddsS_in_l0 : LSp where
  cv := []
  ts := [(0, .own 3000000), (1, .val (.int .i64)), (5, .val (.int .i64))]
  ids := [(3000000, .row (.st (.pair (.int .i64) (.int .i64))))]
  tx := fun e => match e with | .exit i => bif Nat.beq i 0 then [1] else [] | .ret => [] | .normal => []
  ix := fun e => match e with | .exit i => bif Nat.beq i 0 then [3000000] else [] | .ret => [] | .normal => []
def F_laws_markOddsS_in_l0 (k : Nat) : LArg sp_laws_markOddsS_in_l0 := fun K n x y => laws_markOddsS_in_l0 k (fun (y0 : Int) (y1 : List (Int × Int)) => K (.exit 0) (mkSt [(1, .val (.int .i64) y0)] [(3000000, some (.row (.st (.pair (.int .i64) (.int .i64))) y1))])) n x.2.1 x.2.2.1 y.1
def LO_laws_markOddsS_in_l0 (k : Nat) : LTbl := (lcons 2 (ltab sp_laws_markOddsS_in_l0 (F_laws_markOddsS_in_l0 k) k) lnil)
theorem lk_laws_markOddsS_in_l0 (k : Nat) : LoopsOK Try.prog glob (E_laws_eqCombatTable k) cx_laws_markOddsS_in (LO_laws_markOddsS_in_l0 k) ((2, (loopB Try.f66 2)) :: []) :=
  LoopsOK.cons (LoopsOK.nil) (E_laws_eqCombatTable_ok k).2 (F := F_laws_markOddsS_in_l0 k) k [] (by kernel_rfl) (by kernel_rfl) (fun K x y => rfl) (fun n x y K => by kernel_rfl)
def F_laws_markOddsS_in (k : Nat) : FArg (.c (.val (.sl (.st (.pair (.int .i64) (.int .i64))))) (.c (.val (.int .i64)) .e)) := fun x K => laws_markOddsS_in k x.1 x.2.1 (fun (r0 : List (Int × Int)) (r1 : Int) => K [⟨(.sl (.st (.pair (.int .i64) (.int .i64)))), r0, false⟩, ⟨(.int .i64), r1, true⟩])
theorem s_laws_markOddsS_in (k : Nat) : SoundI Try.prog glob 66 1 (ftab (.c (.val (.sl (.st (.pair (.int .i64) (.int .i64))))) (.c (.val (.int .i64)) .e)) (F_laws_markOddsS_in k)) :=
  funI_ok (m := 1) (cx := cx_laws_markOddsS_in) (by kernel_rfl) ⟨types, (E_laws_eqCombatTable_ok k).1, (E_laws_eqCombatTable_ok k).2, mixed, rfl⟩ Try.func66 rfl (lk_laws_markOddsS_in_l0 k) [0] (by kernel_rfl) (fun x K => by kernel_rfl)
def E_laws_markOddsS_in (k : Nat) : Tbl := tcons (66 + 1000000 * 1) (ftab (.c (.val (.sl (.st (.pair (.int .i64) (.int .i64))))) (.c (.val (.int .i64)) .e)) (F_laws_markOddsS_in k)) (E_laws_eqCombatTable k)
theorem E_laws_markOddsS_in_ok (k : Nat) : SoundE Try.prog glob (E_laws_markOddsS_in k) ∧ NatE (E_laws_markOddsS_in k) := tab_consI (by decide) (s_laws_markOddsS_in k) (E_laws_eqCombatTable_ok k)
/-- laws.markIntS -/
def cx_laws_markIntS_in : Cx := { N := 19, G := glob, C := tys, ad := fun d => false, wk := true, dp := true }
def sp_laws_markIntS_in_l0 : LSp where
  cv := []
  ts := [(0, .own 3000000), (1, .val (.int .i64)), (5, .val (.int .i64))]
  ids := [(3000000, .row (.int .i64))]
  tx := fun e => match e with | .exit i => bif Nat.beq i 0 then [1] else [] | .ret => [] | .normal => []
  ix := fun e => match e with | .exit i => bif Nat.beq i 0 then [3000000] else [] | .ret => [] | .normal => []
def F_laws_markIntS_in_l0 (k : Nat) : LArg sp_laws_markIntS_in_l0 := fun K n x y => laws_markIntS_in_l0 k (fun (y0 : Int) (y1 : List Int) => K (.exit 0) (mkSt [(1, .val (.int .i64) y0)] [(3000000, some (.row (.int .i64) y1))])) n x.2.1 x.2.2.1 y.1
def LO_laws_markIntS_in_l0 (k : Nat) : LTbl := (lcons 2 (ltab sp_laws_markIntS_in_l0 (F_laws_markIntS_in_l0 k) k) lnil)
theorem lk_laws_markIntS_in_l0 (k : Nat) : LoopsOK Try.prog glob (E_laws_markOddsS_in k) cx_laws_markIntS_in (LO_laws_markIntS_in_l0 k) ((2, (loopB Try.f32 2)) :: []) :=
  LoopsOK.cons (LoopsOK.nil) (E_laws_markOddsS_in_ok k).2 (F := F_laws_markIntS_in_l0 k) k [] (by kernel_rfl) (by kernel_rfl) (fun K x y => rfl) (fun n x y K => by kernel_rfl)
def F_laws_markIntS_in (k : Nat) : FArg (.c (.val (.sl (.int .i64))) (.c (.val (.int .i64)) .e)) := fun x K => laws_markIntS_in k x.1 x.2.1 (fun (r0 : List Int) (r1 : Int) => K [⟨(.sl (.int .i64)), r0, false⟩, ⟨(.int .i64), r1, true⟩])
theorem s_laws_markIntS_in (k : Nat) : SoundI Try.prog glob 32 1 (ftab (.c (.val (.sl (.int .i64))) (.c (.val (.int .i64)) .e)) (F_laws_markIntS_in k)) :=
  funI_ok (m := 1) (cx := cx_laws_markIntS_in) (by kernel_rfl) ⟨types, (E_laws_markOddsS_in_ok k).1, (E_laws_markOddsS_in_ok k).2, mixed, rfl⟩ Try.func32 rfl (lk_laws_markIntS_in_l0 k) [0] (by kernel_rfl) (fun x K => by kernel_rfl)
def E_laws_markIntS_in (k : Nat) : Tbl := tcons (32 + 1000000 * 1) (ftab (.c (.val (.sl (.int .i64))) (.c (.val (.int .i64)) .e)) (F_laws_markIntS_in k)) (E_laws_markOddsS_in k)
theorem E_laws_markIntS_in_ok (k : Nat) : SoundE Try.prog glob (E_laws_markIntS_in k) ∧ NatE (E_laws_markIntS_in k) := tab_consI (by decide) (s_laws_markIntS_in k) (E_laws_markOddsS_in_ok k)
/-- laws.markIntSS -/
def cx_laws_markIntSS_in : Cx := { N := 19, G := glob, C := tys, ad := fun d => false, wk := true, ip := fun d => bif Nat.beq d 32 then 1 else 0, dp := true }
def sp_laws_markIntSS_in_l0 : LSp where
  cv := []
  ts := [(0, .own 3000000), (1, .val (.int .i64)), (5, .val (.int .i64))]
  ids := [(3000000, .deep (.sl (.int .i64)))]
  tx := fun e => match e with | .exit i => bif Nat.beq i 0 then [1] else [] | .ret => [] | .normal => []
  ix := fun e => match e with | .exit i => bif Nat.beq i 0 then [3000000] else [] | .ret => [] | .normal => []
def F_laws_markIntSS_in_l0 (k : Nat) : LArg sp_laws_markIntSS_in_l0 := fun K n x y => laws_markIntSS_in_l0 k (fun (y0 : Int) (y1 : List (List Int)) => K (.exit 0) (mkSt [(1, .val (.int .i64) y0)] [(3000000, some (.deep (.sl (.int .i64)) y1 0))])) n x.2.1 x.2.2.1 y.1
def LO_laws_markIntSS_in_l0 (k : Nat) : LTbl := (lcons 2 (ltab sp_laws_markIntSS_in_l0 (F_laws_markIntSS_in_l0 k) k) lnil)
theorem lk_laws_markIntSS_in_l0 (k : Nat) : LoopsOK Try.prog glob (E_laws_markIntS_in k) cx_laws_markIntSS_in (LO_laws_markIntSS_in_l0 k) ((2, (loopB Try.f67 2)) :: []) :=
  LoopsOK.cons (LoopsOK.nil) (E_laws_markIntS_in_ok k).2 (F := F_laws_markIntSS_in_l0 k) k [] (by kernel_rfl) (by kernel_rfl) (fun K x y => rfl) (fun n x y K => by kernel_rfl)
def F_laws_markIntSS_in (k : Nat) : FArg (.c (.val (.sl (.sl (.int .i64)))) (.c (.val (.int .i64)) .e)) := fun x K => laws_markIntSS_in k x.1 x.2.1 (fun (r0 : List (List Int)) (r1 : Int) => K [⟨(.sl (.sl (.int .i64))), r0, false⟩, ⟨(.int .i64), r1, true⟩])
theorem s_laws_markIntSS_in (k : Nat) : SoundI Try.prog glob 67 1 (ftab (.c (.val (.sl (.sl (.int .i64)))) (.c (.val (.int .i64)) .e)) (F_laws_markIntSS_in k)) :=
  funI_ok (m := 1) (cx := cx_laws_markIntSS_in) (by kernel_rfl) ⟨types, (E_laws_markIntS_in_ok k).1, (E_laws_markIntS_in_ok k).2, mixed, rfl⟩ Try.func67 rfl (lk_laws_markIntSS_in_l0 k) [0] (by kernel_rfl) (fun x K => by kernel_rfl)
def E_laws_markIntSS_in (k : Nat) : Tbl := tcons (67 + 1000000 * 1) (ftab (.c (.val (.sl (.sl (.int .i64)))) (.c (.val (.int .i64)) .e)) (F_laws_markIntSS_in k)) (E_laws_markIntS_in k)
theorem E_laws_markIntSS_in_ok (k : Nat) : SoundE Try.prog glob (E_laws_markIntSS_in k) ∧ NatE (E_laws_markIntSS_in k) := tab_consI (by decide) (s_laws_markIntSS_in k) (E_laws_markIntS_in_ok k)
/-- laws.markCombatTable -/
def cx_laws_markCombatTable_in : Cx := { N := 14, G := glob, C := tys, ad := fun d => false, wk := true, ip := fun d => bif Nat.beq d 67 then 1 else bif Nat.beq d 66 then 1 else 0, dp := true }
def F_laws_markCombatTable_in (k : Nat) : FArg (.c (.val (.st (.pair (.sl (.st (.pair (.int .i64) (.int .i64)))) (.pair (.int .i64) (.sl (.sl (.int .i64))))))) (.c (.val (.int .i64)) .e)) := fun x K => laws_markCombatTable_in k x.1 x.2.1 (fun (r0 : (List (Int × Int)) × Int × List (List Int)) (r1 : Int) => K [⟨(.st (.pair (.sl (.st (.pair (.int .i64) (.int .i64)))) (.pair (.int .i64) (.sl (.sl (.int .i64)))))), r0, false⟩, ⟨(.int .i64), r1, true⟩])
theorem s_laws_markCombatTable_in (k : Nat) : SoundI Try.prog glob 31 1 (ftab (.c (.val (.st (.pair (.sl (.st (.pair (.int .i64) (.int .i64)))) (.pair (.int .i64) (.sl (.sl (.int .i64))))))) (.c (.val (.int .i64)) .e)) (F_laws_markCombatTable_in k)) :=
  funI_ok (m := 1) (cx := cx_laws_markCombatTable_in) (by kernel_rfl) ⟨types, (E_laws_markIntSS_in_ok k).1, (E_laws_markIntSS_in_ok k).2, mixed, rfl⟩ Try.func31 rfl (LoopsOK.nil) [] (by kernel_rfl) (fun x K => by kernel_rfl)
def E_laws_markCombatTable_in (k : Nat) : Tbl := tcons (31 + 1000000 * 1) (ftab (.c (.val (.st (.pair (.sl (.st (.pair (.int .i64) (.int .i64)))) (.pair (.int .i64) (.sl (.sl (.int .i64))))))) (.c (.val (.int .i64)) .e)) (F_laws_markCombatTable_in k)) (E_laws_markIntSS_in k)
theorem E_laws_markCombatTable_in_ok (k : Nat) : SoundE Try.prog glob (E_laws_markCombatTable_in k) ∧ NatE (E_laws_markCombatTable_in k) := tab_consI (by decide) (s_laws_markCombatTable_in k) (E_laws_markIntSS_in_ok k)
/-- laws.heldIntS -/
def cx_laws_heldIntS : Cx := { N := 21, G := glob, C := tys, ad := fun d => false, wk := false }
def sp_laws_heldIntS_l0 : LSp where
  cv := []
  ts := [(0, .val (.sl (.int .i64))), (1, .val (.int .i64)), (5, .val (.int .i64))]
  ids := []
  tx := fun e => match e with | .exit i => bif Nat.beq i 0 then [1] else [] | .ret => [4] | .normal => []
  ix := fun e => match e with | .exit i => bif Nat.beq i 0 then [] else [] | .ret => [] | .normal => []
def F_laws_heldIntS_l0 (k : Nat) : LArg sp_laws_heldIntS_l0 := fun K n x y => laws_heldIntS_l0 k (fun (y0 : Int) => K (.exit 0) (mkSt [(1, .val (.int .i64) y0)] [])) (fun (y0 : Int) => K (.ret) (mkSt [(4, .val (.int .i64) y0)] [])) n x.1 x.2.1 x.2.2.1
def LO_laws_heldIntS_l0 (k : Nat) : LTbl := (lcons 2 (ltab sp_laws_heldIntS_l0 (F_laws_heldIntS_l0 k) k) lnil)
theorem lk_laws_heldIntS_l0 (k : Nat) : LoopsOK Try.prog glob (E_laws_markCombatTable_in k) cx_laws_heldIntS (LO_laws_heldIntS_l0 k) ((2, (loopB Try.f33 2)) :: []) :=
  LoopsOK.cons (LoopsOK.nil) (E_laws_markCombatTable_in_ok k).2 (F := F_laws_heldIntS_l0 k) k [] (by kernel_rfl) (by kernel_rfl) (fun K x y => rfl) (fun n x y K => by kernel_rfl)
def F_laws_heldIntS (k : Nat) : FArg (.c (.val (.sl (.int .i64))) (.c (.val (.int .i64)) .e)) := fun x K => laws_heldIntS k x.1 x.2.1 (fun (r0 : Int) => K [⟨(.int .i64), r0, true⟩])
theorem s_laws_heldIntS (k : Nat) : SoundF Try.prog glob 33 (ftab (.c (.val (.sl (.int .i64))) (.c (.val (.int .i64)) .e)) (F_laws_heldIntS k)) :=
  fun_ok (cx := cx_laws_heldIntS) (by kernel_rfl) ⟨types, (E_laws_markCombatTable_in_ok k).1, (E_laws_markCombatTable_in_ok k).2, mixed, rfl⟩ Try.func33 rfl (lk_laws_heldIntS_l0 k) [0] (by kernel_rfl) (fun x K => by kernel_rfl)
def E_laws_heldIntS (k : Nat) : Tbl := tcons 33 (ftab (.c (.val (.sl (.int .i64))) (.c (.val (.int .i64)) .e)) (F_laws_heldIntS k)) (E_laws_markCombatTable_in k)
theorem E_laws_heldIntS_ok (k : Nat) : SoundE Try.prog glob (E_laws_heldIntS k) ∧ NatE (E_laws_heldIntS k) := tab_cons (s_laws_heldIntS k) (E_laws_markCombatTable_in_ok k)
/-- laws.FnExactCountResults -/
def cx_laws_FnExactCountResults : Cx := { N := 101, G := glob, C := tys, ad := fun d => Nat.beq d 18 || Nat.beq d 23 || Nat.beq d 25 || Nat.beq d 29 || Nat.beq d 33 || Nat.beq d 38 || Nat.beq d 48 || Nat.beq d 58 || Nat.beq d 71 || Nat.beq d 79 || Nat.beq d 81 || Nat.beq d 86 || Nat.beq d 95, wk := false, ip := fun d => bif Nat.beq d 32 then 1 else bif Nat.beq d 31 then 1 else 0, dp := true }
def F_laws_FnExactCountResults (k : Nat) : FArg (.c (.val (.st (.pair (.sl (.st (.pair (.int .i64) (.int .i64)))) (.pair (.int .i64) (.sl (.sl (.int .i64))))))) (.c (.val (.int .i64)) .e)) := fun x K => laws_FnExactCountResults k x.1 x.2.1 (fun (r0 : Bool) => K [⟨.bool, r0, true⟩])
theorem q_laws_FnExactCountResults (k : Nat) (c0 : ((List (Int × Int)) × Int × List (List Int)) → Int → ∀ {R : Type}, (Int → Option R) → Option R) (c1 : ((List (Int × Int)) × Int × List (List Int)) → ∀ {R : Type}, (((List (Int × Int)) × Int × List (List Int)) → Option R) → Option R) (c2 : ((List (Int × Int)) × Int × List (List Int)) → Int → ∀ {R : Type}, ((List Int) → Bool → Option R) → Option R) (c3 : ((List (Int × Int)) × Int × List (List Int)) → Int → ∀ {R : Type}, ((List Int) → Bool → Option R) → Option R) (c4 : (List Int) → (List Int) → ∀ {R : Type}, (Bool → Option R) → Option R) (c5 : ((List (Int × Int)) × Int × List (List Int)) → ((List (Int × Int)) × Int × List (List Int)) → ∀ {R : Type}, (Bool → Option R) → Option R) (c6 : ((List (Int × Int)) × Int × List (List Int)) → Int → ∀ {R : Type}, (((List (Int × Int)) × Int × List (List Int)) → Int → Option R) → Option R) (c7 : (List Int) → Int → ∀ {R : Type}, ((List Int) → Int → Option R) → Option R) (c8 : (List Int) → Int → ∀ {R : Type}, (Int → Option R) → Option R) {R : Type} (x : ((.c (.val (.st (.pair (.sl (.st (.pair (.int .i64) (.int .i64)))) (.pair (.int .i64) (.sl (.sl (.int .i64))))))) (.c (.val (.int .i64)) .e)) : Sh).den) (K : List Res → Option R) : (fun (x : (List (Int × Int)) × Int × List (List Int)) (x0 : Int) (K : Bool → Option R) =>
    c0 x (1048576 : Int) fun (r : Int) =>
    bif decide (r < (0 : Int)) then
      K true
    else
      c1 x fun (r0 : (List (Int × Int)) × Int × List (List Int)) =>
      c2 r0 x0 fun (r1 : List Int) (r2 : Bool) =>
      c1 x fun (r3 : (List (Int × Int)) × Int × List (List Int)) =>
      c3 r3 x0 fun (r4 : List Int) (r5 : Bool) =>
      c4 r4 r1 fun (r6 : Bool) =>
      bif !r6 then
        K false
      else
        bif !(r5 == r2) then
          K false
        else
          c1 x fun (r7 : (List (Int × Int)) × Int × List (List Int)) =>
          c5 r3 r7 fun (r8 : Bool) =>
          bif !r8 then
            K false
          else
            c6 r3 (1 : Int) fun (t : (List (Int × Int)) × Int × List (List Int)) (r9 : Int) =>
            bif decide (r9 < (0 : Int)) then
              K false
            else
              c4 r4 r1 fun (r10 : Bool) =>
              bif !r10 then
                K false
              else
                bif !(r5 == r2) then
                  K false
                else
                  c7 r4 (1 : Int) fun (t0 : List Int) (r11 : Int) =>
                  c8 t0 (1 : Int) fun (r12 : Int) =>
                  bif decide (r12 < (0 : Int)) then
                    K false
                  else
                    bif !(decide (r12 = r11)) then
                      K false
                    else
                      c1 x fun (r13 : (List (Int × Int)) × Int × List (List Int)) =>
                      c3 r13 x0 fun (r14 : List Int) (r15 : Bool) =>
                      c4 r14 r1 fun (r16 : Bool) =>
                      bif !r16 then
                        K false
                      else
                        bif !(r15 == r2) then
                          K false
                        else
                          c8 t0 (1 : Int) fun (r17 : Int) =>
                          bif decide (r17 < (0 : Int)) then
                            K false
                          else
                            bif !(decide (r17 = r11)) then
                              K false
                            else
                              K true) x.1 x.2.1 (fun (r0 : Bool) => K [⟨.bool, r0, true⟩]) = evFun ((tcons 13 (ftab (.c (.val (.st (.pair (.sl (.st (.pair (.int .i64) (.int .i64)))) (.pair (.int .i64) (.sl (.sl (.int .i64))))))) (.c (.val (.int .i64)) .e)) fun x K => c0 x.1 x.2.1 (fun (r0 : Int) => K [⟨(.int .i64), r0, true⟩])) (tcons 15 (ftab (.c (.val (.st (.pair (.sl (.st (.pair (.int .i64) (.int .i64)))) (.pair (.int .i64) (.sl (.sl (.int .i64))))))) .e) fun x K => c1 x.1 (fun (r0 : (List (Int × Int)) × Int × List (List Int)) => K [⟨(.st (.pair (.sl (.st (.pair (.int .i64) (.int .i64)))) (.pair (.int .i64) (.sl (.sl (.int .i64)))))), r0, true⟩])) (tcons 28 (ftab (.c (.val (.st (.pair (.sl (.st (.pair (.int .i64) (.int .i64)))) (.pair (.int .i64) (.sl (.sl (.int .i64))))))) (.c (.val (.int .i64)) .e)) fun x K => c2 x.1 x.2.1 (fun (r0 : List Int) (r1 : Bool) => K [⟨(.sl (.int .i64)), r0, false⟩, ⟨.bool, r1, true⟩])) (tcons 29 (ftab (.c (.val (.st (.pair (.sl (.st (.pair (.int .i64) (.int .i64)))) (.pair (.int .i64) (.sl (.sl (.int .i64))))))) (.c (.val (.int .i64)) .e)) fun x K => c3 x.1 x.2.1 (fun (r0 : List Int) (r1 : Bool) => K [⟨(.sl (.int .i64)), r0, true⟩, ⟨.bool, r1, true⟩])) (tcons 30 (ftab (.c (.val (.sl (.int .i64))) (.c (.val (.sl (.int .i64))) .e)) fun x K => c4 x.1 x.2.1 (fun (r0 : Bool) => K [⟨.bool, r0, true⟩])) (tcons 17 (ftab (.c (.val (.st (.pair (.sl (.st (.pair (.int .i64) (.int .i64)))) (.pair (.int .i64) (.sl (.sl (.int .i64))))))) (.c (.val (.st (.pair (.sl (.st (.pair (.int .i64) (.int .i64)))) (.pair (.int .i64) (.sl (.sl (.int .i64))))))) .e)) fun x K => c5 x.1 x.2.1 (fun (r0 : Bool) => K [⟨.bool, r0, true⟩])) (tcons (31 + 1000000 * 1) (ftab (.c (.val (.st (.pair (.sl (.st (.pair (.int .i64) (.int .i64)))) (.pair (.int .i64) (.sl (.sl (.int .i64))))))) (.c (.val (.int .i64)) .e)) fun x K => c6 x.1 x.2.1 (fun (r0 : (List (Int × Int)) × Int × List (List Int)) (r1 : Int) => K [⟨(.st (.pair (.sl (.st (.pair (.int .i64) (.int .i64)))) (.pair (.int .i64) (.sl (.sl (.int .i64)))))), r0, false⟩, ⟨(.int .i64), r1, true⟩])) (tcons (32 + 1000000 * 1) (ftab (.c (.val (.sl (.int .i64))) (.c (.val (.int .i64)) .e)) fun x K => c7 x.1 x.2.1 (fun (r0 : List Int) (r1 : Int) => K [⟨(.sl (.int .i64)), r0, false⟩, ⟨(.int .i64), r1, true⟩])) (tcons 33 (ftab (.c (.val (.sl (.int .i64))) (.c (.val (.int .i64)) .e)) fun x K => c8 x.1 x.2.1 (fun (r0 : Int) => K [⟨(.int .i64), r0, true⟩])) tnil)))))))))) lnil cx_laws_FnExactCountResults Try.f9 (give (.c (.val (.st (.pair (.sl (.st (.pair (.int .i64) (.int .i64)))) (.pair (.int .i64) (.sl (.sl (.int .i64))))))) (.c (.val (.int .i64)) .e)) x) K := by kernel_rfl
theorem e_laws_FnExactCountResults (k : Nat) : SoundE Try.prog glob (tcons 13 (ftab (.c (.val (.st (.pair (.sl (.st (.pair (.int .i64) (.int .i64)))) (.pair (.int .i64) (.sl (.sl (.int .i64))))))) (.c (.val (.int .i64)) .e)) (F_laws_szCombatTable k)) (tcons 15 (ftab (.c (.val (.st (.pair (.sl (.st (.pair (.int .i64) (.int .i64)))) (.pair (.int .i64) (.sl (.sl (.int .i64))))))) .e) (F_laws_toCombatTable k)) (tcons 28 (ftab (.c (.val (.st (.pair (.sl (.st (.pair (.int .i64) (.int .i64)))) (.pair (.int .i64) (.sl (.sl (.int .i64))))))) (.c (.val (.int .i64)) .e)) (F_spec_CountResults k)) (tcons 29 (ftab (.c (.val (.st (.pair (.sl (.st (.pair (.int .i64) (.int .i64)))) (.pair (.int .i64) (.sl (.sl (.int .i64))))))) (.c (.val (.int .i64)) .e)) (F_impl_CountResults k)) (tcons 30 (ftab (.c (.val (.sl (.int .i64))) (.c (.val (.sl (.int .i64))) .e)) (F_laws_eqIntS k)) (tcons 17 (ftab (.c (.val (.st (.pair (.sl (.st (.pair (.int .i64) (.int .i64)))) (.pair (.int .i64) (.sl (.sl (.int .i64))))))) (.c (.val (.st (.pair (.sl (.st (.pair (.int .i64) (.int .i64)))) (.pair (.int .i64) (.sl (.sl (.int .i64))))))) .e)) (F_laws_eqCombatTable k)) (tcons (31 + 1000000 * 1) (ftab (.c (.val (.st (.pair (.sl (.st (.pair (.int .i64) (.int .i64)))) (.pair (.int .i64) (.sl (.sl (.int .i64))))))) (.c (.val (.int .i64)) .e)) (F_laws_markCombatTable_in k)) (tcons (32 + 1000000 * 1) (ftab (.c (.val (.sl (.int .i64))) (.c (.val (.int .i64)) .e)) (F_laws_markIntS_in k)) (tcons 33 (ftab (.c (.val (.sl (.int .i64))) (.c (.val (.int .i64)) .e)) (F_laws_heldIntS k)) tnil))))))))) ∧ NatE (tcons 13 (ftab (.c (.val (.st (.pair (.sl (.st (.pair (.int .i64) (.int .i64)))) (.pair (.int .i64) (.sl (.sl (.int .i64))))))) (.c (.val (.int .i64)) .e)) (F_laws_szCombatTable k)) (tcons 15 (ftab (.c (.val (.st (.pair (.sl (.st (.pair (.int .i64) (.int .i64)))) (.pair (.int .i64) (.sl (.sl (.int .i64))))))) .e) (F_laws_toCombatTable k)) (tcons 28 (ftab (.c (.val (.st (.pair (.sl (.st (.pair (.int .i64) (.int .i64)))) (.pair (.int .i64) (.sl (.sl (.int .i64))))))) (.c (.val (.int .i64)) .e)) (F_spec_CountResults k)) (tcons 29 (ftab (.c (.val (.st (.pair (.sl (.st (.pair (.int .i64) (.int .i64)))) (.pair (.int .i64) (.sl (.sl (.int .i64))))))) (.c (.val (.int .i64)) .e)) (F_impl_CountResults k)) (tcons 30 (ftab (.c (.val (.sl (.int .i64))) (.c (.val (.sl (.int .i64))) .e)) (F_laws_eqIntS k)) (tcons 17 (ftab (.c (.val (.st (.pair (.sl (.st (.pair (.int .i64) (.int .i64)))) (.pair (.int .i64) (.sl (.sl (.int .i64))))))) (.c (.val (.st (.pair (.sl (.st (.pair (.int .i64) (.int .i64)))) (.pair (.int .i64) (.sl (.sl (.int .i64))))))) .e)) (F_laws_eqCombatTable k)) (tcons (31 + 1000000 * 1) (ftab (.c (.val (.st (.pair (.sl (.st (.pair (.int .i64) (.int .i64)))) (.pair (.int .i64) (.sl (.sl (.int .i64))))))) (.c (.val (.int .i64)) .e)) (F_laws_markCombatTable_in k)) (tcons (32 + 1000000 * 1) (ftab (.c (.val (.sl (.int .i64))) (.c (.val (.int .i64)) .e)) (F_laws_markIntS_in k)) (tcons 33 (ftab (.c (.val (.sl (.int .i64))) (.c (.val (.int .i64)) .e)) (F_laws_heldIntS k)) tnil))))))))) := (tab_cons (s_laws_szCombatTable k) (tab_cons (s_laws_toCombatTable k) (tab_cons (s_spec_CountResults k) (tab_cons (s_impl_CountResults k) (tab_cons (s_laws_eqIntS k) (tab_cons (s_laws_eqCombatTable k) (tab_consI (by decide) (s_laws_markCombatTable_in k) (tab_consI (by decide) (s_laws_markIntS_in k) (tab_cons (s_laws_heldIntS k) e0)))))))))
theorem s_laws_FnExactCountResults (k : Nat) : SoundF Try.prog glob 9 (ftab (.c (.val (.st (.pair (.sl (.st (.pair (.int .i64) (.int .i64)))) (.pair (.int .i64) (.sl (.sl (.int .i64))))))) (.c (.val (.int .i64)) .e)) (F_laws_FnExactCountResults k)) :=
  fun_ok (cx := cx_laws_FnExactCountResults) (by kernel_rfl) ⟨types, (e_laws_FnExactCountResults k).1, (e_laws_FnExactCountResults k).2, mixed, rfl⟩ Try.func9 rfl (LoopsOK.nil) [] (by kernel_rfl) (fun x K => q_laws_FnExactCountResults k (fun a0 a1 {_} K => laws_szCombatTable k a0 a1 K) (fun a0 {_} K => laws_toCombatTable k a0 K) (fun a0 a1 {_} K => spec_CountResults k a0 a1 K) (fun a0 a1 {_} K => impl_CountResults k a0 a1 K) (fun a0 a1 {_} K => laws_eqIntS k a0 a1 K) (fun a0 a1 {_} K => laws_eqCombatTable k a0 a1 K) (fun a0 a1 {_} K => laws_markCombatTable_in k a0 a1 K) (fun a0 a1 {_} K => laws_markIntS_in k a0 a1 K) (fun a0 a1 {_} K => laws_heldIntS k a0 a1 K) x K)
def E_laws_FnExactCountResults (k : Nat) : Tbl := tcons 9 (ftab (.c (.val (.st (.pair (.sl (.st (.pair (.int .i64) (.int .i64)))) (.pair (.int .i64) (.sl (.sl (.int .i64))))))) (.c (.val (.int .i64)) .e)) (F_laws_FnExactCountResults k)) (E_laws_heldIntS k)
theorem E_laws_FnExactCountResults_ok (k : Nat) : SoundE Try.prog glob (E_laws_FnExactCountResults k) ∧ NatE (E_laws_FnExactCountResults k) := tab_cons (s_laws_FnExactCountResults k) (E_laws_heldIntS_ok k)
end Go.Proofs.Ytncllndlbeghjaa.TieCountResults
