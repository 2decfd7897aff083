import Derived.Test.YtbfbeaghmlkjkaaDoorEv2
import Derived.Test.YtbfbeaghmlkjkaaDoorLgDEKTALBLBM
import Derived.Test.YtbfbeaghmlkjkaaDoorShelf
import Derived.KernelRfl
import Derived.Eval
import Derived.Test.YtbfbeaghmlkjkaaDoorProg
import Derived.Test.YtbfbeaghmlkjkaaDoorChecked
set_option linter.unusedVariables false
set_option linter.unusedSimpArgs false
set_option linter.unusedSectionVars false
set_option linter.unusedVariables false
set_option maxRecDepth 100000
namespace Go.Proofs.YtbfbeaghmlkjkaaDoor.TieRulesText
open Go Go.Ev Go.Lg Go.Proofs
def tys : Nat → Option Ty := lookT [(3, (.int .i64)), (4, .bool), (5, (.int .u8)), (9, .str), (22, (.sl (.st (.pair .str (.pair (.sl (.int .i64)) (.pair (.int .i64) (.pair (.int .i64) .bool))))))), (23, (.sl (.st (.pair .str (.pair (.int .i64) (.pair (.int .i64) (.pair (.int .i64) (.pair .bool (.int .i64))))))))), (25, (.st (.pair (.sl (.st (.pair .str (.pair (.sl (.int .i64)) (.pair (.int .i64) (.pair (.int .i64) .bool)))))) (.pair (.sl (.st (.pair .str (.pair (.int .i64) (.pair (.int .i64) (.pair (.int .i64) (.pair .bool (.int .i64)))))))) (.pair (.int .i64) (.pair (.int .i64) (.pair (.int .i64) (.pair (.int .i64) (.int .i64))))))))), (26, (.sl (.int .i64))), (33, (.sl (.st (.pair .str (.pair (.sl (.int .i64)) (.pair (.int .i64) (.pair (.int .i64) .bool))))))), (34, (.sl (.st (.pair .str (.pair (.int .i64) (.pair (.int .i64) (.pair (.int .i64) (.pair .bool (.int .i64))))))))), (36, (.st (.pair (.sl (.st (.pair .str (.pair (.sl (.int .i64)) (.pair (.int .i64) (.pair (.int .i64) .bool)))))) (.pair (.sl (.st (.pair .str (.pair (.int .i64) (.pair (.int .i64) (.pair (.int .i64) (.pair .bool (.int .i64)))))))) (.pair (.int .i64) (.pair (.int .i64) (.pair (.int .i64) (.pair (.int .i64) (.int .i64))))))))), (121, (.st (.pair .str (.pair (.sl (.int .i64)) (.pair (.int .i64) (.pair (.int .i64) .bool)))))), (125, (.st (.pair .str (.pair (.int .i64) (.pair (.int .i64) (.pair (.int .i64) (.pair .bool (.int .i64)))))))), (135, (.st (.pair .str (.pair (.sl (.int .i64)) (.pair (.int .i64) (.pair (.int .i64) .bool)))))), (137, (.st (.pair .str (.pair (.int .i64) (.pair (.int .i64) (.pair (.int .i64) (.pair .bool (.int .i64)))))))), (153, (.sl .str)), (158, (.arr 5 (.int .i64))), (160, (.arr 5 .str)), (165, (.sl (.int .u8))), (195, (.arr 20 (.int .u64)))]
def glob : Nat → AV := fun g => bif Nat.beq g 3 then .tab (Lib.pow10Tab.map fun z => Value.int .u64 z) else bif Nat.beq g 0 then .pval (.arr 5 .str) impl_limitNames else .bot
theorem types : Types Tryd.prog tys := types_of (by kernel_rfl)
theorem mixed : Tryd.prog.follows .mixedOrders = true := Checked.mixed Tryd.checked
theorem e0 : SoundE Tryd.prog glob tnil ∧ NatE tnil := ⟨tnil_sound, tnil_nat⟩
theorem tab_cons {n : Nat} {t : FFun} {E : Tbl} (h : SoundF Tryd.prog glob n t) (h2 : SoundE Tryd.prog glob E ∧ NatE E) : SoundE Tryd.prog glob (tcons n t E) ∧ NatE (tcons n t E) := ⟨tcons_sound h h2.1, tcons_nat h h2.2⟩
/-- laws.szIntS -/
def cx_laws_szIntS : Cx := { N := 12, G := glob, C := tys, ad := fun d => false, wk := false }
def F_laws_szIntS (k : Nat) : FArg (.c (.val (.sl (.int .i64))) (.c (.val (.int .i64)) .e)) := fun x K => laws_szIntS x.1 x.2.1 (fun (r0 : Int) => K [⟨(.int .i64), r0, true⟩])
theorem s_laws_szIntS (k : Nat) : SoundF Tryd.prog glob 67 (ftab (.c (.val (.sl (.int .i64))) (.c (.val (.int .i64)) .e)) (F_laws_szIntS k)) :=
  fun_ok (cx := cx_laws_szIntS) (by kernel_rfl) ⟨types, (e0).1, (e0).2, mixed, rfl⟩ Tryd.func67 rfl (LoopsOK.nil) [] (by kernel_rfl) (fun x K => by kernel_rfl)
def E_laws_szIntS (k : Nat) : Tbl := tcons 67 (ftab (.c (.val (.sl (.int .i64))) (.c (.val (.int .i64)) .e)) (F_laws_szIntS k)) (tnil)
theorem E_laws_szIntS_ok (k : Nat) : SoundE Tryd.prog glob (E_laws_szIntS k) ∧ NatE (E_laws_szIntS k) := ⟨tcons_sound (s_laws_szIntS k) (e0).1, tcons_nat (s_laws_szIntS k) (e0).2⟩
/-- laws.szTerrain -/
def cx_laws_szTerrain : Cx := { N := 19, G := glob, C := tys, ad := fun d => false, wk := false }
def F_laws_szTerrain (k : Nat) : FArg (.c (.val (.st (.pair .str (.pair (.sl (.int .i64)) (.pair (.int .i64) (.pair (.int .i64) .bool)))))) (.c (.val (.int .i64)) .e)) := fun x K => laws_szTerrain x.1 x.2.1 (fun (r0 : Int) => K [⟨(.int .i64), r0, true⟩])
theorem s_laws_szTerrain (k : Nat) : SoundF Tryd.prog glob 114 (ftab (.c (.val (.st (.pair .str (.pair (.sl (.int .i64)) (.pair (.int .i64) (.pair (.int .i64) .bool)))))) (.c (.val (.int .i64)) .e)) (F_laws_szTerrain k)) :=
  fun_ok (cx := cx_laws_szTerrain) (by kernel_rfl) ⟨types, (E_laws_szIntS_ok k).1, (E_laws_szIntS_ok k).2, mixed, rfl⟩ Tryd.func114 rfl (LoopsOK.nil) [] (by kernel_rfl) (fun x K => by kernel_rfl)
def E_laws_szTerrain (k : Nat) : Tbl := tcons 114 (ftab (.c (.val (.st (.pair .str (.pair (.sl (.int .i64)) (.pair (.int .i64) (.pair (.int .i64) .bool)))))) (.c (.val (.int .i64)) .e)) (F_laws_szTerrain k)) (E_laws_szIntS k)
theorem E_laws_szTerrain_ok (k : Nat) : SoundE Tryd.prog glob (E_laws_szTerrain k) ∧ NatE (E_laws_szTerrain k) := ⟨tcons_sound (s_laws_szTerrain k) (E_laws_szIntS_ok k).1, tcons_nat (s_laws_szTerrain k) (E_laws_szIntS_ok k).2⟩
/-- laws.szTerrainS -/
def cx_laws_szTerrainS : Cx := { N := 27, G := glob, C := tys, ad := fun d => false, wk := false }
def sp_laws_szTerrainS_l0 : LSp where
  cv := []
  ts := [(0, .val (.sl (.st (.pair .str (.pair (.sl (.int .i64)) (.pair (.int .i64) (.pair (.int .i64) .bool))))))), (1, .val (.int .i64)), (5, .val (.int .i64))]
  ids := []
  tx := fun e => match e with | .exit i => bif Nat.beq i 0 then [1] else [] | .ret => [4] | .normal => []
  ix := fun e => match e with | .exit i => bif Nat.beq i 0 then [] else [] | .ret => [] | .normal => []
def F_laws_szTerrainS_l0 (k : Nat) : LArg sp_laws_szTerrainS_l0 := fun K n x y => laws_szTerrainS_l0 k (fun (y0 : Int) => K (.exit 0) (mkSt [(1, .val (.int .i64) y0)] [])) (fun (y0 : Int) => K (.ret) (mkSt [(4, .val (.int .i64) y0)] [])) n x.1 x.2.1 x.2.2.1
def LO_laws_szTerrainS_l0 (k : Nat) : LTbl := (lcons 5 (ltab sp_laws_szTerrainS_l0 (F_laws_szTerrainS_l0 k) k) lnil)
theorem lk_laws_szTerrainS_l0 (k : Nat) : LoopsOK Tryd.prog glob (E_laws_szTerrain k) cx_laws_szTerrainS (LO_laws_szTerrainS_l0 k) ((5, (loopB Tryd.f65 5)) :: []) :=
  LoopsOK.cons (LoopsOK.nil) (E_laws_szTerrain_ok k).2 (F := F_laws_szTerrainS_l0 k) k [] (by kernel_rfl) (by kernel_rfl) (fun K x y => rfl) (fun n x y K => by kernel_rfl)
def F_laws_szTerrainS (k : Nat) : FArg (.c (.val (.sl (.st (.pair .str (.pair (.sl (.int .i64)) (.pair (.int .i64) (.pair (.int .i64) .bool))))))) (.c (.val (.int .i64)) .e)) := fun x K => laws_szTerrainS k x.1 x.2.1 (fun (r0 : Int) => K [⟨(.int .i64), r0, true⟩])
theorem s_laws_szTerrainS (k : Nat) : SoundF Tryd.prog glob 65 (ftab (.c (.val (.sl (.st (.pair .str (.pair (.sl (.int .i64)) (.pair (.int .i64) (.pair (.int .i64) .bool))))))) (.c (.val (.int .i64)) .e)) (F_laws_szTerrainS k)) :=
  fun_ok (cx := cx_laws_szTerrainS) (by kernel_rfl) ⟨types, (E_laws_szTerrain_ok k).1, (E_laws_szTerrain_ok k).2, mixed, rfl⟩ Tryd.func65 rfl (lk_laws_szTerrainS_l0 k) [0] (by kernel_rfl) (fun x K => by kernel_rfl)
def E_laws_szTerrainS (k : Nat) : Tbl := tcons 65 (ftab (.c (.val (.sl (.st (.pair .str (.pair (.sl (.int .i64)) (.pair (.int .i64) (.pair (.int .i64) .bool))))))) (.c (.val (.int .i64)) .e)) (F_laws_szTerrainS k)) (E_laws_szTerrain k)
theorem E_laws_szTerrainS_ok (k : Nat) : SoundE Tryd.prog glob (E_laws_szTerrainS k) ∧ NatE (E_laws_szTerrainS k) := ⟨tcons_sound (s_laws_szTerrainS k) (E_laws_szTerrain_ok k).1, tcons_nat (s_laws_szTerrainS k) (E_laws_szTerrain_ok k).2⟩
/-- laws.szKind -/
def cx_laws_szKind : Cx := { N := 13, G := glob, C := tys, ad := fun d => false, wk := false }
def F_laws_szKind (k : Nat) : FArg (.c (.val (.st (.pair .str (.pair (.int .i64) (.pair (.int .i64) (.pair (.int .i64) (.pair .bool (.int .i64)))))))) (.c (.val (.int .i64)) .e)) := fun x K => laws_szKind x.1 x.2.1 (fun (r0 : Int) => K [⟨(.int .i64), r0, true⟩])
theorem s_laws_szKind (k : Nat) : SoundF Tryd.prog glob 115 (ftab (.c (.val (.st (.pair .str (.pair (.int .i64) (.pair (.int .i64) (.pair (.int .i64) (.pair .bool (.int .i64)))))))) (.c (.val (.int .i64)) .e)) (F_laws_szKind k)) :=
  fun_ok (cx := cx_laws_szKind) (by kernel_rfl) ⟨types, (E_laws_szTerrainS_ok k).1, (E_laws_szTerrainS_ok k).2, mixed, rfl⟩ Tryd.func115 rfl (LoopsOK.nil) [] (by kernel_rfl) (fun x K => by kernel_rfl)
def E_laws_szKind (k : Nat) : Tbl := tcons 115 (ftab (.c (.val (.st (.pair .str (.pair (.int .i64) (.pair (.int .i64) (.pair (.int .i64) (.pair .bool (.int .i64)))))))) (.c (.val (.int .i64)) .e)) (F_laws_szKind k)) (E_laws_szTerrainS k)
theorem E_laws_szKind_ok (k : Nat) : SoundE Tryd.prog glob (E_laws_szKind k) ∧ NatE (E_laws_szKind k) := ⟨tcons_sound (s_laws_szKind k) (E_laws_szTerrainS_ok k).1, tcons_nat (s_laws_szKind k) (E_laws_szTerrainS_ok k).2⟩
/-- laws.szKindS -/
def cx_laws_szKindS : Cx := { N := 27, G := glob, C := tys, ad := fun d => false, wk := false }
def sp_laws_szKindS_l0 : LSp where
  cv := []
  ts := [(0, .val (.sl (.st (.pair .str (.pair (.int .i64) (.pair (.int .i64) (.pair (.int .i64) (.pair .bool (.int .i64))))))))), (1, .val (.int .i64)), (5, .val (.int .i64))]
  ids := []
  tx := fun e => match e with | .exit i => bif Nat.beq i 0 then [1] else [] | .ret => [4] | .normal => []
  ix := fun e => match e with | .exit i => bif Nat.beq i 0 then [] else [] | .ret => [] | .normal => []
def F_laws_szKindS_l0 (k : Nat) : LArg sp_laws_szKindS_l0 := fun K n x y => laws_szKindS_l0 k (fun (y0 : Int) => K (.exit 0) (mkSt [(1, .val (.int .i64) y0)] [])) (fun (y0 : Int) => K (.ret) (mkSt [(4, .val (.int .i64) y0)] [])) n x.1 x.2.1 x.2.2.1
def LO_laws_szKindS_l0 (k : Nat) : LTbl := (lcons 5 (ltab sp_laws_szKindS_l0 (F_laws_szKindS_l0 k) k) lnil)
theorem lk_laws_szKindS_l0 (k : Nat) : LoopsOK Tryd.prog glob (E_laws_szKind k) cx_laws_szKindS (LO_laws_szKindS_l0 k) ((5, (loopB Tryd.f66 5)) :: []) :=
  LoopsOK.cons (LoopsOK.nil) (E_laws_szKind_ok k).2 (F := F_laws_szKindS_l0 k) k [] (by kernel_rfl) (by kernel_rfl) (fun K x y => rfl) (fun n x y K => by kernel_rfl)
def F_laws_szKindS (k : Nat) : FArg (.c (.val (.sl (.st (.pair .str (.pair (.int .i64) (.pair (.int .i64) (.pair (.int .i64) (.pair .bool (.int .i64))))))))) (.c (.val (.int .i64)) .e)) := fun x K => laws_szKindS k x.1 x.2.1 (fun (r0 : Int) => K [⟨(.int .i64), r0, true⟩])
theorem s_laws_szKindS (k : Nat) : SoundF Tryd.prog glob 66 (ftab (.c (.val (.sl (.st (.pair .str (.pair (.int .i64) (.pair (.int .i64) (.pair (.int .i64) (.pair .bool (.int .i64))))))))) (.c (.val (.int .i64)) .e)) (F_laws_szKindS k)) :=
  fun_ok (cx := cx_laws_szKindS) (by kernel_rfl) ⟨types, (E_laws_szKind_ok k).1, (E_laws_szKind_ok k).2, mixed, rfl⟩ Tryd.func66 rfl (lk_laws_szKindS_l0 k) [0] (by kernel_rfl) (fun x K => by kernel_rfl)
def E_laws_szKindS (k : Nat) : Tbl := tcons 66 (ftab (.c (.val (.sl (.st (.pair .str (.pair (.int .i64) (.pair (.int .i64) (.pair (.int .i64) (.pair .bool (.int .i64))))))))) (.c (.val (.int .i64)) .e)) (F_laws_szKindS k)) (E_laws_szKind k)
theorem E_laws_szKindS_ok (k : Nat) : SoundE Tryd.prog glob (E_laws_szKindS k) ∧ NatE (E_laws_szKindS k) := ⟨tcons_sound (s_laws_szKindS k) (E_laws_szKind_ok k).1, tcons_nat (s_laws_szKindS k) (E_laws_szKind_ok k).2⟩
/-- laws.szRules -/
def cx_laws_szRules : Cx := { N := 18, G := glob, C := tys, ad := fun d => false, wk := false }
def F_laws_szRules (k : Nat) : FArg (.c (.val (.st (.pair (.sl (.st (.pair .str (.pair (.sl (.int .i64)) (.pair (.int .i64) (.pair (.int .i64) .bool)))))) (.pair (.sl (.st (.pair .str (.pair (.int .i64) (.pair (.int .i64) (.pair (.int .i64) (.pair .bool (.int .i64)))))))) (.pair (.int .i64) (.pair (.int .i64) (.pair (.int .i64) (.pair (.int .i64) (.int .i64))))))))) (.c (.val (.int .i64)) .e)) := fun x K => laws_szRules k x.1 x.2.1 (fun (r0 : Int) => K [⟨(.int .i64), r0, true⟩])
theorem s_laws_szRules (k : Nat) : SoundF Tryd.prog glob 21 (ftab (.c (.val (.st (.pair (.sl (.st (.pair .str (.pair (.sl (.int .i64)) (.pair (.int .i64) (.pair (.int .i64) .bool)))))) (.pair (.sl (.st (.pair .str (.pair (.int .i64) (.pair (.int .i64) (.pair (.int .i64) (.pair .bool (.int .i64)))))))) (.pair (.int .i64) (.pair (.int .i64) (.pair (.int .i64) (.pair (.int .i64) (.int .i64))))))))) (.c (.val (.int .i64)) .e)) (F_laws_szRules k)) :=
  fun_ok (cx := cx_laws_szRules) (by kernel_rfl) ⟨types, (E_laws_szKindS_ok k).1, (E_laws_szKindS_ok k).2, mixed, rfl⟩ Tryd.func21 rfl (LoopsOK.nil) [] (by kernel_rfl) (fun x K => by kernel_rfl)
def E_laws_szRules (k : Nat) : Tbl := tcons 21 (ftab (.c (.val (.st (.pair (.sl (.st (.pair .str (.pair (.sl (.int .i64)) (.pair (.int .i64) (.pair (.int .i64) .bool)))))) (.pair (.sl (.st (.pair .str (.pair (.int .i64) (.pair (.int .i64) (.pair (.int .i64) (.pair .bool (.int .i64)))))))) (.pair (.int .i64) (.pair (.int .i64) (.pair (.int .i64) (.pair (.int .i64) (.int .i64))))))))) (.c (.val (.int .i64)) .e)) (F_laws_szRules k)) (E_laws_szKindS k)
theorem E_laws_szRules_ok (k : Nat) : SoundE Tryd.prog glob (E_laws_szRules k) ∧ NatE (E_laws_szRules k) := ⟨tcons_sound (s_laws_szRules k) (E_laws_szKindS_ok k).1, tcons_nat (s_laws_szRules k) (E_laws_szKindS_ok k).2⟩
/-- laws.toIntS -/
def cx_laws_toIntS : Cx := { N := 22, G := glob, C := tys, ad := fun d => false, wk := false }
def sp_laws_toIntS_l0 : LSp where
  cv := []
  ts := [(0, .val (.sl (.int .i64))), (3, .own 7), (4, .val (.int .i64))]
  ids := [(7, .row (.int .i64))]
  tx := fun e => match e with | .exit i => bif Nat.beq i 0 then [3] else [] | .ret => [] | .normal => []
  ix := fun e => match e with | .exit i => bif Nat.beq i 0 then [7] else [] | .ret => [] | .normal => []
def F_laws_toIntS_l0 (k : Nat) : LArg sp_laws_toIntS_l0 := fun K n x y => laws_toIntS_l0 k (fun (y0 : List Int) => K (.exit 0) (mkSt [(3, .own 7 1)] [(7, some (.row (.int .i64) y0))])) n x.1 x.2.2.1 y.1
def LO_laws_toIntS_l0 (k : Nat) : LTbl := (lcons 3 (ltab sp_laws_toIntS_l0 (F_laws_toIntS_l0 k) k) lnil)
theorem lk_laws_toIntS_l0 (k : Nat) : LoopsOK Tryd.prog glob (E_laws_szRules k) cx_laws_toIntS (LO_laws_toIntS_l0 k) ((3, (loopB Tryd.f73 3)) :: []) :=
  LoopsOK.cons (LoopsOK.nil) (E_laws_szRules_ok k).2 (F := F_laws_toIntS_l0 k) k [] (by kernel_rfl) (by kernel_rfl) (fun K x y => rfl) (fun n x y K => by kernel_rfl)
def F_laws_toIntS (k : Nat) : FArg (.c (.val (.sl (.int .i64))) .e) := fun x K => laws_toIntS k x.1 (fun (r0 : List Int) => K [⟨(.sl (.int .i64)), r0, true⟩])
theorem s_laws_toIntS (k : Nat) : SoundF Tryd.prog glob 73 (ftab (.c (.val (.sl (.int .i64))) .e) (F_laws_toIntS k)) :=
  fun_ok (cx := cx_laws_toIntS) (by kernel_rfl) ⟨types, (E_laws_szRules_ok k).1, (E_laws_szRules_ok k).2, mixed, rfl⟩ Tryd.func73 rfl (lk_laws_toIntS_l0 k) [0] (by kernel_rfl) (fun x K => by kernel_rfl)
def E_laws_toIntS (k : Nat) : Tbl := tcons 73 (ftab (.c (.val (.sl (.int .i64))) .e) (F_laws_toIntS k)) (E_laws_szRules k)
theorem E_laws_toIntS_ok (k : Nat) : SoundE Tryd.prog glob (E_laws_toIntS k) ∧ NatE (E_laws_toIntS k) := ⟨tcons_sound (s_laws_toIntS k) (E_laws_szRules_ok k).1, tcons_nat (s_laws_toIntS k) (E_laws_szRules_ok k).2⟩
/-- laws.toTerrain -/
def cx_laws_toTerrain : Cx := { N := 21, G := glob, C := tys, ad := fun d => false, wk := false }
def F_laws_toTerrain (k : Nat) : FArg (.c (.val (.st (.pair .str (.pair (.sl (.int .i64)) (.pair (.int .i64) (.pair (.int .i64) .bool)))))) .e) := fun x K => laws_toTerrain k x.1 (fun (r0 : ByteArray × (List Int) × Int × Int × Bool) => K [⟨(.st (.pair .str (.pair (.sl (.int .i64)) (.pair (.int .i64) (.pair (.int .i64) .bool))))), r0, false⟩])
theorem s_laws_toTerrain (k : Nat) : SoundF Tryd.prog glob 120 (ftab (.c (.val (.st (.pair .str (.pair (.sl (.int .i64)) (.pair (.int .i64) (.pair (.int .i64) .bool)))))) .e) (F_laws_toTerrain k)) :=
  fun_ok (cx := cx_laws_toTerrain) (by kernel_rfl) ⟨types, (E_laws_toIntS_ok k).1, (E_laws_toIntS_ok k).2, mixed, rfl⟩ Tryd.func120 rfl (LoopsOK.nil) [] (by kernel_rfl) (fun x K => by kernel_rfl)
def E_laws_toTerrain (k : Nat) : Tbl := tcons 120 (ftab (.c (.val (.st (.pair .str (.pair (.sl (.int .i64)) (.pair (.int .i64) (.pair (.int .i64) .bool)))))) .e) (F_laws_toTerrain k)) (E_laws_toIntS k)
theorem E_laws_toTerrain_ok (k : Nat) : SoundE Tryd.prog glob (E_laws_toTerrain k) ∧ NatE (E_laws_toTerrain k) := ⟨tcons_sound (s_laws_toTerrain k) (E_laws_toIntS_ok k).1, tcons_nat (s_laws_toTerrain k) (E_laws_toIntS_ok k).2⟩
/-- laws.toTerrainS -/
def cx_laws_toTerrainS : Cx := { N := 23, G := glob, C := tys, ad := fun d => false, wk := false }
def sp_laws_toTerrainS_l0 : LSp where
  cv := []
  ts := [(0, .val (.sl (.st (.pair .str (.pair (.sl (.int .i64)) (.pair (.int .i64) (.pair (.int .i64) .bool))))))), (3, .own 7), (4, .val (.int .i64))]
  ids := [(7, .row (.st (.pair .str (.pair (.sl (.int .i64)) (.pair (.int .i64) (.pair (.int .i64) .bool))))))]
  tx := fun e => match e with | .exit i => bif Nat.beq i 0 then [3] else [] | .ret => [] | .normal => []
  ix := fun e => match e with | .exit i => bif Nat.beq i 0 then [7] else [] | .ret => [] | .normal => []
def F_laws_toTerrainS_l0 (k : Nat) : LArg sp_laws_toTerrainS_l0 := fun K n x y => laws_toTerrainS_l0 k (fun (y0 : List (ByteArray × (List Int) × Int × Int × Bool)) => K (.exit 0) (mkSt [(3, .own 7 1)] [(7, some (.row (.st (.pair .str (.pair (.sl (.int .i64)) (.pair (.int .i64) (.pair (.int .i64) .bool))))) y0))])) n x.1 x.2.2.1 y.1
def LO_laws_toTerrainS_l0 (k : Nat) : LTbl := (lcons 3 (ltab sp_laws_toTerrainS_l0 (F_laws_toTerrainS_l0 k) k) lnil)
theorem lk_laws_toTerrainS_l0 (k : Nat) : LoopsOK Tryd.prog glob (E_laws_toTerrain k) cx_laws_toTerrainS (LO_laws_toTerrainS_l0 k) ((3, (loopB Tryd.f71 3)) :: []) :=
  LoopsOK.cons (LoopsOK.nil) (E_laws_toTerrain_ok k).2 (F := F_laws_toTerrainS_l0 k) k [] (by kernel_rfl) (by kernel_rfl) (fun K x y => rfl) (fun n x y K => by kernel_rfl)
def F_laws_toTerrainS (k : Nat) : FArg (.c (.val (.sl (.st (.pair .str (.pair (.sl (.int .i64)) (.pair (.int .i64) (.pair (.int .i64) .bool))))))) .e) := fun x K => laws_toTerrainS k x.1 (fun (r0 : List (ByteArray × (List Int) × Int × Int × Bool)) => K [⟨(.sl (.st (.pair .str (.pair (.sl (.int .i64)) (.pair (.int .i64) (.pair (.int .i64) .bool)))))), r0, false⟩])
theorem s_laws_toTerrainS (k : Nat) : SoundF Tryd.prog glob 71 (ftab (.c (.val (.sl (.st (.pair .str (.pair (.sl (.int .i64)) (.pair (.int .i64) (.pair (.int .i64) .bool))))))) .e) (F_laws_toTerrainS k)) :=
  fun_ok (cx := cx_laws_toTerrainS) (by kernel_rfl) ⟨types, (E_laws_toTerrain_ok k).1, (E_laws_toTerrain_ok k).2, mixed, rfl⟩ Tryd.func71 rfl (lk_laws_toTerrainS_l0 k) [0] (by kernel_rfl) (fun x K => by kernel_rfl)
def E_laws_toTerrainS (k : Nat) : Tbl := tcons 71 (ftab (.c (.val (.sl (.st (.pair .str (.pair (.sl (.int .i64)) (.pair (.int .i64) (.pair (.int .i64) .bool))))))) .e) (F_laws_toTerrainS k)) (E_laws_toTerrain k)
theorem E_laws_toTerrainS_ok (k : Nat) : SoundE Tryd.prog glob (E_laws_toTerrainS k) ∧ NatE (E_laws_toTerrainS k) := ⟨tcons_sound (s_laws_toTerrainS k) (E_laws_toTerrain_ok k).1, tcons_nat (s_laws_toTerrainS k) (E_laws_toTerrain_ok k).2⟩
/-- laws.toKind -/
def cx_laws_toKind : Cx := { N := 23, G := glob, C := tys, ad := fun d => false, wk := false }
def F_laws_toKind (k : Nat) : FArg (.c (.val (.st (.pair .str (.pair (.int .i64) (.pair (.int .i64) (.pair (.int .i64) (.pair .bool (.int .i64)))))))) .e) := fun x K => laws_toKind x.1 (fun (r0 : ByteArray × Int × Int × Int × Bool × Int) => K [⟨(.st (.pair .str (.pair (.int .i64) (.pair (.int .i64) (.pair (.int .i64) (.pair .bool (.int .i64))))))), r0, true⟩])
theorem s_laws_toKind (k : Nat) : SoundF Tryd.prog glob 121 (ftab (.c (.val (.st (.pair .str (.pair (.int .i64) (.pair (.int .i64) (.pair (.int .i64) (.pair .bool (.int .i64)))))))) .e) (F_laws_toKind k)) :=
  fun_ok (cx := cx_laws_toKind) (by kernel_rfl) ⟨types, (E_laws_toTerrainS_ok k).1, (E_laws_toTerrainS_ok k).2, mixed, rfl⟩ Tryd.func121 rfl (LoopsOK.nil) [] (by kernel_rfl) (fun x K => by kernel_rfl)
def E_laws_toKind (k : Nat) : Tbl := tcons 121 (ftab (.c (.val (.st (.pair .str (.pair (.int .i64) (.pair (.int .i64) (.pair (.int .i64) (.pair .bool (.int .i64)))))))) .e) (F_laws_toKind k)) (E_laws_toTerrainS k)
theorem E_laws_toKind_ok (k : Nat) : SoundE Tryd.prog glob (E_laws_toKind k) ∧ NatE (E_laws_toKind k) := ⟨tcons_sound (s_laws_toKind k) (E_laws_toTerrainS_ok k).1, tcons_nat (s_laws_toKind k) (E_laws_toTerrainS_ok k).2⟩
/-- laws.toKindS -/
def cx_laws_toKindS : Cx := { N := 23, G := glob, C := tys, ad := fun d => false, wk := false }
def sp_laws_toKindS_l0 : LSp where
  cv := []
  ts := [(0, .val (.sl (.st (.pair .str (.pair (.int .i64) (.pair (.int .i64) (.pair (.int .i64) (.pair .bool (.int .i64))))))))), (3, .own 7), (4, .val (.int .i64))]
  ids := [(7, .row (.st (.pair .str (.pair (.int .i64) (.pair (.int .i64) (.pair (.int .i64) (.pair .bool (.int .i64))))))))]
  tx := fun e => match e with | .exit i => bif Nat.beq i 0 then [3] else [] | .ret => [] | .normal => []
  ix := fun e => match e with | .exit i => bif Nat.beq i 0 then [7] else [] | .ret => [] | .normal => []
def F_laws_toKindS_l0 (k : Nat) : LArg sp_laws_toKindS_l0 := fun K n x y => laws_toKindS_l0 k (fun (y0 : List (ByteArray × Int × Int × Int × Bool × Int)) => K (.exit 0) (mkSt [(3, .own 7 1)] [(7, some (.row (.st (.pair .str (.pair (.int .i64) (.pair (.int .i64) (.pair (.int .i64) (.pair .bool (.int .i64))))))) y0))])) n x.1 x.2.2.1 y.1
def LO_laws_toKindS_l0 (k : Nat) : LTbl := (lcons 3 (ltab sp_laws_toKindS_l0 (F_laws_toKindS_l0 k) k) lnil)
theorem lk_laws_toKindS_l0 (k : Nat) : LoopsOK Tryd.prog glob (E_laws_toKind k) cx_laws_toKindS (LO_laws_toKindS_l0 k) ((3, (loopB Tryd.f72 3)) :: []) :=
  LoopsOK.cons (LoopsOK.nil) (E_laws_toKind_ok k).2 (F := F_laws_toKindS_l0 k) k [] (by kernel_rfl) (by kernel_rfl) (fun K x y => rfl) (fun n x y K => by kernel_rfl)
def F_laws_toKindS (k : Nat) : FArg (.c (.val (.sl (.st (.pair .str (.pair (.int .i64) (.pair (.int .i64) (.pair (.int .i64) (.pair .bool (.int .i64))))))))) .e) := fun x K => laws_toKindS k x.1 (fun (r0 : List (ByteArray × Int × Int × Int × Bool × Int)) => K [⟨(.sl (.st (.pair .str (.pair (.int .i64) (.pair (.int .i64) (.pair (.int .i64) (.pair .bool (.int .i64)))))))), r0, true⟩])
theorem s_laws_toKindS (k : Nat) : SoundF Tryd.prog glob 72 (ftab (.c (.val (.sl (.st (.pair .str (.pair (.int .i64) (.pair (.int .i64) (.pair (.int .i64) (.pair .bool (.int .i64))))))))) .e) (F_laws_toKindS k)) :=
  fun_ok (cx := cx_laws_toKindS) (by kernel_rfl) ⟨types, (E_laws_toKind_ok k).1, (E_laws_toKind_ok k).2, mixed, rfl⟩ Tryd.func72 rfl (lk_laws_toKindS_l0 k) [0] (by kernel_rfl) (fun x K => by kernel_rfl)
def E_laws_toKindS (k : Nat) : Tbl := tcons 72 (ftab (.c (.val (.sl (.st (.pair .str (.pair (.int .i64) (.pair (.int .i64) (.pair (.int .i64) (.pair .bool (.int .i64))))))))) .e) (F_laws_toKindS k)) (E_laws_toKind k)
theorem E_laws_toKindS_ok (k : Nat) : SoundE Tryd.prog glob (E_laws_toKindS k) ∧ NatE (E_laws_toKindS k) := ⟨tcons_sound (s_laws_toKindS k) (E_laws_toKind_ok k).1, tcons_nat (s_laws_toKindS k) (E_laws_toKind_ok k).2⟩
/-- laws.toRules -/
def cx_laws_toRules : Cx := { N := 28, G := glob, C := tys, ad := fun d => false, wk := false }
def F_laws_toRules (k : Nat) : FArg (.c (.val (.st (.pair (.sl (.st (.pair .str (.pair (.sl (.int .i64)) (.pair (.int .i64) (.pair (.int .i64) .bool)))))) (.pair (.sl (.st (.pair .str (.pair (.int .i64) (.pair (.int .i64) (.pair (.int .i64) (.pair .bool (.int .i64)))))))) (.pair (.int .i64) (.pair (.int .i64) (.pair (.int .i64) (.pair (.int .i64) (.int .i64))))))))) .e) := fun x K => laws_toRules k x.1 (fun (r0 : (List (ByteArray × (List Int) × Int × Int × Bool)) × (List (ByteArray × Int × Int × Int × Bool × Int)) × Int × Int × Int × Int × Int) => K [⟨(.st (.pair (.sl (.st (.pair .str (.pair (.sl (.int .i64)) (.pair (.int .i64) (.pair (.int .i64) .bool)))))) (.pair (.sl (.st (.pair .str (.pair (.int .i64) (.pair (.int .i64) (.pair (.int .i64) (.pair .bool (.int .i64)))))))) (.pair (.int .i64) (.pair (.int .i64) (.pair (.int .i64) (.pair (.int .i64) (.int .i64)))))))), r0, false⟩])
theorem s_laws_toRules (k : Nat) : SoundF Tryd.prog glob 24 (ftab (.c (.val (.st (.pair (.sl (.st (.pair .str (.pair (.sl (.int .i64)) (.pair (.int .i64) (.pair (.int .i64) .bool)))))) (.pair (.sl (.st (.pair .str (.pair (.int .i64) (.pair (.int .i64) (.pair (.int .i64) (.pair .bool (.int .i64)))))))) (.pair (.int .i64) (.pair (.int .i64) (.pair (.int .i64) (.pair (.int .i64) (.int .i64))))))))) .e) (F_laws_toRules k)) :=
  fun_ok (cx := cx_laws_toRules) (by kernel_rfl) ⟨types, (E_laws_toKindS_ok k).1, (E_laws_toKindS_ok k).2, mixed, rfl⟩ Tryd.func24 rfl (LoopsOK.nil) [] (by kernel_rfl) (fun x K => by kernel_rfl)
def E_laws_toRules (k : Nat) : Tbl := tcons 24 (ftab (.c (.val (.st (.pair (.sl (.st (.pair .str (.pair (.sl (.int .i64)) (.pair (.int .i64) (.pair (.int .i64) .bool)))))) (.pair (.sl (.st (.pair .str (.pair (.int .i64) (.pair (.int .i64) (.pair (.int .i64) (.pair .bool (.int .i64)))))))) (.pair (.int .i64) (.pair (.int .i64) (.pair (.int .i64) (.pair (.int .i64) (.int .i64))))))))) .e) (F_laws_toRules k)) (E_laws_toKindS k)
theorem E_laws_toRules_ok (k : Nat) : SoundE Tryd.prog glob (E_laws_toRules k) ∧ NatE (E_laws_toRules k) := ⟨tcons_sound (s_laws_toRules k) (E_laws_toKindS_ok k).1, tcons_nat (s_laws_toRules k) (E_laws_toKindS_ok k).2⟩
/-- spec.l1In -/
def cx_spec_l1In : Cx := { N := 15, G := glob, C := tys, ad := fun d => false, wk := false }
def F_spec_l1In (k : Nat) : FArg (.c (.val (.int .i64)) (.c (.val (.int .i64)) (.c (.val (.int .i64)) .e))) := fun x K => spec_l1In x.1 x.2.1 x.2.2.1 (fun (r0 : Bool) => K [⟨.bool, r0, true⟩])
theorem s_spec_l1In (k : Nat) : SoundF Tryd.prog glob 95 (ftab (.c (.val (.int .i64)) (.c (.val (.int .i64)) (.c (.val (.int .i64)) .e))) (F_spec_l1In k)) :=
  fun_ok (cx := cx_spec_l1In) (by kernel_rfl) ⟨types, (E_laws_toRules_ok k).1, (E_laws_toRules_ok k).2, mixed, rfl⟩ Tryd.func95 rfl (LoopsOK.nil) [] (by kernel_rfl) (fun x K => by kernel_rfl)
def E_spec_l1In (k : Nat) : Tbl := tcons 95 (ftab (.c (.val (.int .i64)) (.c (.val (.int .i64)) (.c (.val (.int .i64)) .e))) (F_spec_l1In k)) (E_laws_toRules k)
theorem E_spec_l1In_ok (k : Nat) : SoundE Tryd.prog glob (E_spec_l1In k) ∧ NatE (E_spec_l1In k) := ⟨tcons_sound (s_spec_l1In k) (E_laws_toRules_ok k).1, tcons_nat (s_spec_l1In k) (E_laws_toRules_ok k).2⟩
/-- spec.rName -/
def cx_spec_rName : Cx := { N := 23, G := glob, C := tys, ad := fun d => false, wk := false }
def sp_spec_rName_l0 : LSp where
  cv := []
  ts := [(0, .val .str), (3, .val (.int .i64))]
  ids := []
  tx := fun e => match e with | .exit i => bif Nat.beq i 0 then [0] else [] | .ret => [2] | .normal => []
  ix := fun e => match e with | .exit i => bif Nat.beq i 0 then [] else [] | .ret => [] | .normal => []
def F_spec_rName_l0 (k : Nat) : LArg sp_spec_rName_l0 := fun K n x y => spec_rName_l0 k (fun (y0 : ByteArray) => K (.exit 0) (mkSt [(0, .val .str y0)] [])) (fun (y0 : Bool) => K (.ret) (mkSt [(2, .val .bool y0)] [])) n x.1 x.2.1
def LO_spec_rName_l0 (k : Nat) : LTbl := (lcons 2 (ltab sp_spec_rName_l0 (F_spec_rName_l0 k) k) lnil)
theorem lk_spec_rName_l0 (k : Nat) : LoopsOK Tryd.prog glob (E_spec_l1In k) cx_spec_rName (LO_spec_rName_l0 k) ((2, (loopB Tryd.f116 2)) :: []) :=
  LoopsOK.cons (LoopsOK.nil) (E_spec_l1In_ok k).2 (F := F_spec_rName_l0 k) k [] (by kernel_rfl) (by kernel_rfl) (fun K x y => rfl) (fun n x y K => by kernel_rfl)
def F_spec_rName (k : Nat) : FArg (.c (.val .str) .e) := fun x K => spec_rName k x.1 (fun (r0 : Bool) => K [⟨.bool, r0, true⟩])
theorem s_spec_rName (k : Nat) : SoundF Tryd.prog glob 116 (ftab (.c (.val .str) .e) (F_spec_rName k)) :=
  fun_ok (cx := cx_spec_rName) (by kernel_rfl) ⟨types, (E_spec_l1In_ok k).1, (E_spec_l1In_ok k).2, mixed, rfl⟩ Tryd.func116 rfl (lk_spec_rName_l0 k) [0] (by kernel_rfl) (fun x K => by kernel_rfl)
def E_spec_rName (k : Nat) : Tbl := tcons 116 (ftab (.c (.val .str) .e) (F_spec_rName k)) (E_spec_l1In k)
theorem E_spec_rName_ok (k : Nat) : SoundE Tryd.prog glob (E_spec_rName k) ∧ NatE (E_spec_rName k) := ⟨tcons_sound (s_spec_rName k) (E_spec_l1In_ok k).1, tcons_nat (s_spec_rName k) (E_spec_l1In_ok k).2⟩
/-- spec.rTerrain -/
def cx_spec_rTerrain : Cx := { N := 20, G := glob, C := tys, ad := fun d => false, wk := false }
def sp_spec_rTerrain_l0 : LSp where
  cv := []
  ts := [(1, .val .str), (7, .val (.sl (.st (.pair .str (.pair (.sl (.int .i64)) (.pair (.int .i64) (.pair (.int .i64) .bool))))))), (8, .val (.int .i64)), (9, .val (.int .i64))]
  ids := []
  tx := fun e => match e with | .exit i => bif Nat.beq i 0 then [] else [] | .ret => [4] | .normal => []
  ix := fun e => match e with | .exit i => bif Nat.beq i 0 then [] else [] | .ret => [] | .normal => []
def F_spec_rTerrain_l0 (k : Nat) : LArg sp_spec_rTerrain_l0 := fun K n x y => spec_rTerrain_l0 k (K (.exit 0) (mkSt [] [])) (fun (y0 : Int) => K (.ret) (mkSt [(4, .val (.int .i64) y0)] [])) n x.1 x.2.1 x.2.2.1 x.2.2.2.1
def LO_spec_rTerrain_l0 (k : Nat) : LTbl := (lcons 2 (ltab sp_spec_rTerrain_l0 (F_spec_rTerrain_l0 k) k) lnil)
theorem lk_spec_rTerrain_l0 (k : Nat) : LoopsOK Tryd.prog glob (E_spec_rName k) cx_spec_rTerrain (LO_spec_rTerrain_l0 k) ((2, (loopB Tryd.f117 2)) :: []) :=
  LoopsOK.cons (LoopsOK.nil) (E_spec_rName_ok k).2 (F := F_spec_rTerrain_l0 k) k [] (by kernel_rfl) (by kernel_rfl) (fun K x y => rfl) (fun n x y K => by kernel_rfl)
def F_spec_rTerrain (k : Nat) : FArg (.c (.val (.sl (.st (.pair .str (.pair (.sl (.int .i64)) (.pair (.int .i64) (.pair (.int .i64) .bool))))))) (.c (.val .str) .e)) := fun x K => spec_rTerrain k x.1 x.2.1 (fun (r0 : Int) => K [⟨(.int .i64), r0, true⟩])
theorem s_spec_rTerrain (k : Nat) : SoundF Tryd.prog glob 117 (ftab (.c (.val (.sl (.st (.pair .str (.pair (.sl (.int .i64)) (.pair (.int .i64) (.pair (.int .i64) .bool))))))) (.c (.val .str) .e)) (F_spec_rTerrain k)) :=
  fun_ok (cx := cx_spec_rTerrain) (by kernel_rfl) ⟨types, (E_spec_rName_ok k).1, (E_spec_rName_ok k).2, mixed, rfl⟩ Tryd.func117 rfl (lk_spec_rTerrain_l0 k) [0] (by kernel_rfl) (fun x K => by kernel_rfl)
def E_spec_rTerrain (k : Nat) : Tbl := tcons 117 (ftab (.c (.val (.sl (.st (.pair .str (.pair (.sl (.int .i64)) (.pair (.int .i64) (.pair (.int .i64) .bool))))))) (.c (.val .str) .e)) (F_spec_rTerrain k)) (E_spec_rName k)
theorem E_spec_rTerrain_ok (k : Nat) : SoundE Tryd.prog glob (E_spec_rTerrain k) ∧ NatE (E_spec_rTerrain k) := ⟨tcons_sound (s_spec_rTerrain k) (E_spec_rName_ok k).1, tcons_nat (s_spec_rTerrain k) (E_spec_rName_ok k).2⟩
/-- spec.l1All -/
def cx_spec_l1All : Cx := { N := 21, G := glob, C := tys, ad := fun d => false, wk := false }
def sp_spec_l1All_l0 : LSp where
  cv := []
  ts := [(1, .val (.int .i64)), (2, .val (.int .i64)), (9, .val (.sl (.int .i64))), (10, .val (.int .i64)), (11, .val (.int .i64))]
  ids := []
  tx := fun e => match e with | .exit i => bif Nat.beq i 0 then [] else [] | .ret => [6] | .normal => []
  ix := fun e => match e with | .exit i => bif Nat.beq i 0 then [] else [] | .ret => [] | .normal => []
def F_spec_l1All_l0 (k : Nat) : LArg sp_spec_l1All_l0 := fun K n x y => spec_l1All_l0 k (K (.exit 0) (mkSt [] [])) (fun (y0 : Bool) => K (.ret) (mkSt [(6, .val .bool y0)] [])) n x.1 x.2.1 x.2.2.1 x.2.2.2.1 x.2.2.2.2.1
def LO_spec_l1All_l0 (k : Nat) : LTbl := (lcons 2 (ltab sp_spec_l1All_l0 (F_spec_l1All_l0 k) k) lnil)
theorem lk_spec_l1All_l0 (k : Nat) : LoopsOK Tryd.prog glob (E_spec_rTerrain k) cx_spec_l1All (LO_spec_l1All_l0 k) ((2, (loopB Tryd.f102 2)) :: []) :=
  LoopsOK.cons (LoopsOK.nil) (E_spec_rTerrain_ok k).2 (F := F_spec_l1All_l0 k) k [] (by kernel_rfl) (by kernel_rfl) (fun K x y => rfl) (fun n x y K => by kernel_rfl)
def F_spec_l1All (k : Nat) : FArg (.c (.val (.sl (.int .i64))) (.c (.val (.int .i64)) (.c (.val (.int .i64)) .e))) := fun x K => spec_l1All k x.1 x.2.1 x.2.2.1 (fun (r0 : Bool) => K [⟨.bool, r0, true⟩])
theorem s_spec_l1All (k : Nat) : SoundF Tryd.prog glob 102 (ftab (.c (.val (.sl (.int .i64))) (.c (.val (.int .i64)) (.c (.val (.int .i64)) .e))) (F_spec_l1All k)) :=
  fun_ok (cx := cx_spec_l1All) (by kernel_rfl) ⟨types, (E_spec_rTerrain_ok k).1, (E_spec_rTerrain_ok k).2, mixed, rfl⟩ Tryd.func102 rfl (lk_spec_l1All_l0 k) [0] (by kernel_rfl) (fun x K => by kernel_rfl)
def E_spec_l1All (k : Nat) : Tbl := tcons 102 (ftab (.c (.val (.sl (.int .i64))) (.c (.val (.int .i64)) (.c (.val (.int .i64)) .e))) (F_spec_l1All k)) (E_spec_rTerrain k)
theorem E_spec_l1All_ok (k : Nat) : SoundE Tryd.prog glob (E_spec_l1All k) ∧ NatE (E_spec_l1All k) := ⟨tcons_sound (s_spec_l1All k) (E_spec_rTerrain_ok k).1, tcons_nat (s_spec_l1All k) (E_spec_rTerrain_ok k).2⟩
/-- spec.rKind -/
def cx_spec_rKind : Cx := { N := 20, G := glob, C := tys, ad := fun d => false, wk := false }
def sp_spec_rKind_l0 : LSp where
  cv := []
  ts := [(1, .val .str), (7, .val (.sl (.st (.pair .str (.pair (.int .i64) (.pair (.int .i64) (.pair (.int .i64) (.pair .bool (.int .i64))))))))), (8, .val (.int .i64)), (9, .val (.int .i64))]
  ids := []
  tx := fun e => match e with | .exit i => bif Nat.beq i 0 then [] else [] | .ret => [4] | .normal => []
  ix := fun e => match e with | .exit i => bif Nat.beq i 0 then [] else [] | .ret => [] | .normal => []
def F_spec_rKind_l0 (k : Nat) : LArg sp_spec_rKind_l0 := fun K n x y => spec_rKind_l0 k (K (.exit 0) (mkSt [] [])) (fun (y0 : Int) => K (.ret) (mkSt [(4, .val (.int .i64) y0)] [])) n x.1 x.2.1 x.2.2.1 x.2.2.2.1
def LO_spec_rKind_l0 (k : Nat) : LTbl := (lcons 2 (ltab sp_spec_rKind_l0 (F_spec_rKind_l0 k) k) lnil)
theorem lk_spec_rKind_l0 (k : Nat) : LoopsOK Tryd.prog glob (E_spec_l1All k) cx_spec_rKind (LO_spec_rKind_l0 k) ((2, (loopB Tryd.f118 2)) :: []) :=
  LoopsOK.cons (LoopsOK.nil) (E_spec_l1All_ok k).2 (F := F_spec_rKind_l0 k) k [] (by kernel_rfl) (by kernel_rfl) (fun K x y => rfl) (fun n x y K => by kernel_rfl)
def F_spec_rKind (k : Nat) : FArg (.c (.val (.sl (.st (.pair .str (.pair (.int .i64) (.pair (.int .i64) (.pair (.int .i64) (.pair .bool (.int .i64))))))))) (.c (.val .str) .e)) := fun x K => spec_rKind k x.1 x.2.1 (fun (r0 : Int) => K [⟨(.int .i64), r0, true⟩])
theorem s_spec_rKind (k : Nat) : SoundF Tryd.prog glob 118 (ftab (.c (.val (.sl (.st (.pair .str (.pair (.int .i64) (.pair (.int .i64) (.pair (.int .i64) (.pair .bool (.int .i64))))))))) (.c (.val .str) .e)) (F_spec_rKind k)) :=
  fun_ok (cx := cx_spec_rKind) (by kernel_rfl) ⟨types, (E_spec_l1All_ok k).1, (E_spec_l1All_ok k).2, mixed, rfl⟩ Tryd.func118 rfl (lk_spec_rKind_l0 k) [0] (by kernel_rfl) (fun x K => by kernel_rfl)
def E_spec_rKind (k : Nat) : Tbl := tcons 118 (ftab (.c (.val (.sl (.st (.pair .str (.pair (.int .i64) (.pair (.int .i64) (.pair (.int .i64) (.pair .bool (.int .i64))))))))) (.c (.val .str) .e)) (F_spec_rKind k)) (E_spec_l1All k)
theorem E_spec_rKind_ok (k : Nat) : SoundE Tryd.prog glob (E_spec_rKind k) ∧ NatE (E_spec_rKind k) := ⟨tcons_sound (s_spec_rKind k) (E_spec_l1All_ok k).1, tcons_nat (s_spec_rKind k) (E_spec_l1All_ok k).2⟩
/-- spec.rGood -/
def cx_spec_rGood : Cx := { N := 137, G := glob, C := tys, ad := fun d => false, wk := false }
def sp_spec_rGood_l0 : LSp where
  cv := []
  ts := [(1, .ptr 1), (20, .val (.sl (.st (.pair .str (.pair (.sl (.int .i64)) (.pair (.int .i64) (.pair (.int .i64) .bool))))))), (21, .val (.int .i64)), (22, .val (.int .i64))]
  ids := [(1, .box (.st (.pair (.sl (.st (.pair .str (.pair (.sl (.int .i64)) (.pair (.int .i64) (.pair (.int .i64) .bool)))))) (.pair (.sl (.st (.pair .str (.pair (.int .i64) (.pair (.int .i64) (.pair (.int .i64) (.pair .bool (.int .i64)))))))) (.pair (.int .i64) (.pair (.int .i64) (.pair (.int .i64) (.pair (.int .i64) (.int .i64)))))))) (.val (.st (.pair (.sl (.st (.pair .str (.pair (.sl (.int .i64)) (.pair (.int .i64) (.pair (.int .i64) .bool)))))) (.pair (.sl (.st (.pair .str (.pair (.int .i64) (.pair (.int .i64) (.pair (.int .i64) (.pair .bool (.int .i64)))))))) (.pair (.int .i64) (.pair (.int .i64) (.pair (.int .i64) (.pair (.int .i64) (.int .i64))))))))))]
  tx := fun e => match e with | .exit i => bif Nat.beq i 0 then [1] else [] | .ret => [2] | .normal => []
  ix := fun e => match e with | .exit i => bif Nat.beq i 0 then [1] else [] | .ret => [] | .normal => []
def F_spec_rGood_l0 (k : Nat) : LArg sp_spec_rGood_l0 := fun K n x y => spec_rGood_l0 k (fun (y0 : (List (ByteArray × (List Int) × Int × Int × Bool)) × (List (ByteArray × Int × Int × Int × Bool × Int)) × Int × Int × Int × Int × Int) => K (.exit 0) (mkSt [(1, .ptr 1 1 [])] [(1, some (.box (.st (.pair (.sl (.st (.pair .str (.pair (.sl (.int .i64)) (.pair (.int .i64) (.pair (.int .i64) .bool)))))) (.pair (.sl (.st (.pair .str (.pair (.int .i64) (.pair (.int .i64) (.pair (.int .i64) (.pair .bool (.int .i64)))))))) (.pair (.int .i64) (.pair (.int .i64) (.pair (.int .i64) (.pair (.int .i64) (.int .i64)))))))) (.val (.st (.pair (.sl (.st (.pair .str (.pair (.sl (.int .i64)) (.pair (.int .i64) (.pair (.int .i64) .bool)))))) (.pair (.sl (.st (.pair .str (.pair (.int .i64) (.pair (.int .i64) (.pair (.int .i64) (.pair .bool (.int .i64)))))))) (.pair (.int .i64) (.pair (.int .i64) (.pair (.int .i64) (.pair (.int .i64) (.int .i64)))))))) y0)))])) (fun (y0 : Bool) => K (.ret) (mkSt [(2, .val .bool y0)] [])) n x.2.1 x.2.2.1 x.2.2.2.1 y.1
def LO_spec_rGood_l0 (k : Nat) : LTbl := (lcons 4 (ltab sp_spec_rGood_l0 (F_spec_rGood_l0 k) k) lnil)
theorem lk_spec_rGood_l0 (k : Nat) : LoopsOK Tryd.prog glob (E_spec_rKind k) cx_spec_rGood (LO_spec_rGood_l0 k) ((4, (loopB Tryd.f68 4)) :: []) :=
  LoopsOK.cons (LoopsOK.nil) (E_spec_rKind_ok k).2 (F := F_spec_rGood_l0 k) k [] (by kernel_rfl) (by kernel_rfl) (fun K x y => rfl) (fun n x y K => by kernel_rfl)
def sp_spec_rGood_l1 : LSp where
  cv := []
  ts := [(1, .ptr 1), (69, .val (.sl (.st (.pair .str (.pair (.int .i64) (.pair (.int .i64) (.pair (.int .i64) (.pair .bool (.int .i64))))))))), (70, .val (.int .i64)), (71, .val (.int .i64))]
  ids := [(1, .box (.st (.pair (.sl (.st (.pair .str (.pair (.sl (.int .i64)) (.pair (.int .i64) (.pair (.int .i64) .bool)))))) (.pair (.sl (.st (.pair .str (.pair (.int .i64) (.pair (.int .i64) (.pair (.int .i64) (.pair .bool (.int .i64)))))))) (.pair (.int .i64) (.pair (.int .i64) (.pair (.int .i64) (.pair (.int .i64) (.int .i64)))))))) (.val (.st (.pair (.sl (.st (.pair .str (.pair (.sl (.int .i64)) (.pair (.int .i64) (.pair (.int .i64) .bool)))))) (.pair (.sl (.st (.pair .str (.pair (.int .i64) (.pair (.int .i64) (.pair (.int .i64) (.pair .bool (.int .i64)))))))) (.pair (.int .i64) (.pair (.int .i64) (.pair (.int .i64) (.pair (.int .i64) (.int .i64))))))))))]
  tx := fun e => match e with | .exit i => bif Nat.beq i 2 then [1] else [] | .ret => [2] | .normal => []
  ix := fun e => match e with | .exit i => bif Nat.beq i 2 then [1] else [] | .ret => [] | .normal => []
def F_spec_rGood_l1 (k : Nat) : LArg sp_spec_rGood_l1 := fun K n x y => spec_rGood_l1 k (fun (y0 : (List (ByteArray × (List Int) × Int × Int × Bool)) × (List (ByteArray × Int × Int × Int × Bool × Int)) × Int × Int × Int × Int × Int) => K (.exit 2) (mkSt [(1, .ptr 1 1 [])] [(1, some (.box (.st (.pair (.sl (.st (.pair .str (.pair (.sl (.int .i64)) (.pair (.int .i64) (.pair (.int .i64) .bool)))))) (.pair (.sl (.st (.pair .str (.pair (.int .i64) (.pair (.int .i64) (.pair (.int .i64) (.pair .bool (.int .i64)))))))) (.pair (.int .i64) (.pair (.int .i64) (.pair (.int .i64) (.pair (.int .i64) (.int .i64)))))))) (.val (.st (.pair (.sl (.st (.pair .str (.pair (.sl (.int .i64)) (.pair (.int .i64) (.pair (.int .i64) .bool)))))) (.pair (.sl (.st (.pair .str (.pair (.int .i64) (.pair (.int .i64) (.pair (.int .i64) (.pair .bool (.int .i64)))))))) (.pair (.int .i64) (.pair (.int .i64) (.pair (.int .i64) (.pair (.int .i64) (.int .i64)))))))) y0)))])) (fun (y0 : Bool) => K (.ret) (mkSt [(2, .val .bool y0)] [])) n x.2.1 x.2.2.1 x.2.2.2.1 y.1
def LO_spec_rGood_l1 (k : Nat) : LTbl := (lcons 10 (ltab sp_spec_rGood_l1 (F_spec_rGood_l1 k) k) (LO_spec_rGood_l0 k))
theorem lk_spec_rGood_l1 (k : Nat) : LoopsOK Tryd.prog glob (E_spec_rKind k) cx_spec_rGood (LO_spec_rGood_l1 k) ((10, (loopB Tryd.f68 10)) :: ((4, (loopB Tryd.f68 4)) :: [])) :=
  LoopsOK.cons (lk_spec_rGood_l0 k) (E_spec_rKind_ok k).2 (F := F_spec_rGood_l1 k) k [] (by kernel_rfl) (by kernel_rfl) (fun K x y => rfl) (fun n x y K => by kernel_rfl)
def F_spec_rGood (k : Nat) : FArg (.c (.val (.st (.pair (.sl (.st (.pair .str (.pair (.sl (.int .i64)) (.pair (.int .i64) (.pair (.int .i64) .bool)))))) (.pair (.sl (.st (.pair .str (.pair (.int .i64) (.pair (.int .i64) (.pair (.int .i64) (.pair .bool (.int .i64)))))))) (.pair (.int .i64) (.pair (.int .i64) (.pair (.int .i64) (.pair (.int .i64) (.int .i64))))))))) .e) := fun x K => spec_rGood k x.1 (fun (r0 : Bool) => K [⟨.bool, r0, true⟩])
theorem s_spec_rGood (k : Nat) : SoundF Tryd.prog glob 68 (ftab (.c (.val (.st (.pair (.sl (.st (.pair .str (.pair (.sl (.int .i64)) (.pair (.int .i64) (.pair (.int .i64) .bool)))))) (.pair (.sl (.st (.pair .str (.pair (.int .i64) (.pair (.int .i64) (.pair (.int .i64) (.pair .bool (.int .i64)))))))) (.pair (.int .i64) (.pair (.int .i64) (.pair (.int .i64) (.pair (.int .i64) (.int .i64))))))))) .e) (F_spec_rGood k)) :=
  fun_ok (cx := cx_spec_rGood) (by kernel_rfl) ⟨types, (E_spec_rKind_ok k).1, (E_spec_rKind_ok k).2, mixed, rfl⟩ Tryd.func68 rfl (lk_spec_rGood_l1 k) [1, 0] (by kernel_rfl) (fun x K => by kernel_rfl)
def E_spec_rGood (k : Nat) : Tbl := tcons 68 (ftab (.c (.val (.st (.pair (.sl (.st (.pair .str (.pair (.sl (.int .i64)) (.pair (.int .i64) (.pair (.int .i64) .bool)))))) (.pair (.sl (.st (.pair .str (.pair (.int .i64) (.pair (.int .i64) (.pair (.int .i64) (.pair .bool (.int .i64)))))))) (.pair (.int .i64) (.pair (.int .i64) (.pair (.int .i64) (.pair (.int .i64) (.int .i64))))))))) .e) (F_spec_rGood k)) (E_spec_rKind k)
theorem E_spec_rGood_ok (k : Nat) : SoundE Tryd.prog glob (E_spec_rGood k) ∧ NatE (E_spec_rGood k) := ⟨tcons_sound (s_spec_rGood k) (E_spec_rKind_ok k).1, tcons_nat (s_spec_rGood k) (E_spec_rKind_ok k).2⟩
/-- spec.bfLimits -/
def cx_spec_bfLimits : Cx := { N := 2, G := glob, C := tys, ad := fun d => false, wk := false }
def F_spec_bfLimits (k : Nat) : FArg .e := fun x K => spec_bfLimits (fun (r0 : List ByteArray) => K [⟨(.sl .str), r0, true⟩])
theorem s_spec_bfLimits (k : Nat) : SoundF Tryd.prog glob 134 (ftab .e (F_spec_bfLimits k)) :=
  fun_ok (cx := cx_spec_bfLimits) (by kernel_rfl) ⟨types, (E_spec_rGood_ok k).1, (E_spec_rGood_ok k).2, mixed, rfl⟩ Tryd.func134 rfl (LoopsOK.nil) [] (by kernel_rfl) (fun x K => by kernel_rfl)
def E_spec_bfLimits (k : Nat) : Tbl := tcons 134 (ftab .e (F_spec_bfLimits k)) (E_spec_rGood k)
theorem E_spec_bfLimits_ok (k : Nat) : SoundE Tryd.prog glob (E_spec_bfLimits k) ∧ NatE (E_spec_bfLimits k) := ⟨tcons_sound (s_spec_bfLimits k) (E_spec_rGood_ok k).1, tcons_nat (s_spec_bfLimits k) (E_spec_rGood_ok k).2⟩
/-- spec.bfValues -/
def cx_spec_bfValues : Cx := { N := 14, G := glob, C := tys, ad := fun d => false, wk := false }
def F_spec_bfValues (k : Nat) : FArg (.c (.val (.st (.pair (.sl (.st (.pair .str (.pair (.sl (.int .i64)) (.pair (.int .i64) (.pair (.int .i64) .bool)))))) (.pair (.sl (.st (.pair .str (.pair (.int .i64) (.pair (.int .i64) (.pair (.int .i64) (.pair .bool (.int .i64)))))))) (.pair (.int .i64) (.pair (.int .i64) (.pair (.int .i64) (.pair (.int .i64) (.int .i64))))))))) .e) := fun x K => spec_bfValues x.1 (fun (r0 : List Int) => K [⟨(.sl (.int .i64)), r0, true⟩])
theorem s_spec_bfValues (k : Nat) : SoundF Tryd.prog glob 136 (ftab (.c (.val (.st (.pair (.sl (.st (.pair .str (.pair (.sl (.int .i64)) (.pair (.int .i64) (.pair (.int .i64) .bool)))))) (.pair (.sl (.st (.pair .str (.pair (.int .i64) (.pair (.int .i64) (.pair (.int .i64) (.pair .bool (.int .i64)))))))) (.pair (.int .i64) (.pair (.int .i64) (.pair (.int .i64) (.pair (.int .i64) (.int .i64))))))))) .e) (F_spec_bfValues k)) :=
  fun_ok (cx := cx_spec_bfValues) (by kernel_rfl) ⟨types, (E_spec_bfLimits_ok k).1, (E_spec_bfLimits_ok k).2, mixed, rfl⟩ Tryd.func136 rfl (LoopsOK.nil) [] (by kernel_rfl) (fun x K => by kernel_rfl)
def E_spec_bfValues (k : Nat) : Tbl := tcons 136 (ftab (.c (.val (.st (.pair (.sl (.st (.pair .str (.pair (.sl (.int .i64)) (.pair (.int .i64) (.pair (.int .i64) .bool)))))) (.pair (.sl (.st (.pair .str (.pair (.int .i64) (.pair (.int .i64) (.pair (.int .i64) (.pair .bool (.int .i64)))))))) (.pair (.int .i64) (.pair (.int .i64) (.pair (.int .i64) (.pair (.int .i64) (.int .i64))))))))) .e) (F_spec_bfValues k)) (E_spec_bfLimits k)
theorem E_spec_bfValues_ok (k : Nat) : SoundE Tryd.prog glob (E_spec_bfValues k) ∧ NatE (E_spec_bfValues k) := ⟨tcons_sound (s_spec_bfValues k) (E_spec_bfLimits_ok k).1, tcons_nat (s_spec_bfValues k) (E_spec_bfLimits_ok k).2⟩
/-- spec.l1Num -/
def cx_spec_l1Num : Cx := { N := 20, G := glob, C := tys, ad := fun d => false, wk := false }
def F_spec_l1Num (d : Nat) : FArg (.c (.val (.int .i64)) .e) := fun x K => spec_l1Num d x.1 (fun (r0 : ByteArray) => K [⟨.str, r0, true⟩])
theorem s_spec_l1Num (k : Nat) : SoundF Tryd.prog glob 135 (ftab (.c (.val (.int .i64)) .e) (F_spec_l1Num k)) :=
  rec_ok (cx := cx_spec_l1Num) (by kernel_rfl) ⟨types, (E_spec_bfValues_ok k).1, (E_spec_bfValues_ok k).2, mixed, rfl⟩ Tryd.func135 rfl (by kernel_rfl) (fun x K => rfl) (fun d x K => by kernel_rfl) k
def E_spec_l1Num (k : Nat) : Tbl := tcons 135 (ftab (.c (.val (.int .i64)) .e) (F_spec_l1Num k)) (E_spec_bfValues k)
theorem E_spec_l1Num_ok (k : Nat) : SoundE Tryd.prog glob (E_spec_l1Num k) ∧ NatE (E_spec_l1Num k) := ⟨tcons_sound (s_spec_l1Num k) (E_spec_bfValues_ok k).1, tcons_nat (s_spec_l1Num k) (E_spec_bfValues_ok k).2⟩
/-- spec.bfKind -/
def cx_spec_bfKind : Cx := { N := 32, G := glob, C := tys, ad := fun d => false, wk := false }
def F_spec_bfKind (k : Nat) : FArg (.c (.val (.st (.pair .str (.pair (.int .i64) (.pair (.int .i64) (.pair (.int .i64) (.pair .bool (.int .i64)))))))) .e) := fun x K => spec_bfKind k x.1 (fun (r0 : ByteArray) => K [⟨.str, r0, true⟩])
theorem s_spec_bfKind (k : Nat) : SoundF Tryd.prog glob 137 (ftab (.c (.val (.st (.pair .str (.pair (.int .i64) (.pair (.int .i64) (.pair (.int .i64) (.pair .bool (.int .i64)))))))) .e) (F_spec_bfKind k)) :=
  fun_ok (cx := cx_spec_bfKind) (by kernel_rfl) ⟨types, (E_spec_l1Num_ok k).1, (E_spec_l1Num_ok k).2, mixed, rfl⟩ Tryd.func137 rfl (LoopsOK.nil) [] (by kernel_rfl) (fun x K => by kernel_rfl)
def E_spec_bfKind (k : Nat) : Tbl := tcons 137 (ftab (.c (.val (.st (.pair .str (.pair (.int .i64) (.pair (.int .i64) (.pair (.int .i64) (.pair .bool (.int .i64)))))))) .e) (F_spec_bfKind k)) (E_spec_l1Num k)
theorem E_spec_bfKind_ok (k : Nat) : SoundE Tryd.prog glob (E_spec_bfKind k) ∧ NatE (E_spec_bfKind k) := ⟨tcons_sound (s_spec_bfKind k) (E_spec_l1Num_ok k).1, tcons_nat (s_spec_bfKind k) (E_spec_l1Num_ok k).2⟩
/-- spec.l1Int -/
def cx_spec_l1Int : Cx := { N := 11, G := glob, C := tys, ad := fun d => false, wk := false }
def F_spec_l1Int (k : Nat) : FArg (.c (.val (.int .i64)) .e) := fun x K => spec_l1Int k x.1 (fun (r0 : ByteArray) => K [⟨.str, r0, true⟩])
theorem s_spec_l1Int (k : Nat) : SoundF Tryd.prog glob 154 (ftab (.c (.val (.int .i64)) .e) (F_spec_l1Int k)) :=
  fun_ok (cx := cx_spec_l1Int) (by kernel_rfl) ⟨types, (E_spec_bfKind_ok k).1, (E_spec_bfKind_ok k).2, mixed, rfl⟩ Tryd.func154 rfl (LoopsOK.nil) [] (by kernel_rfl) (fun x K => by kernel_rfl)
def E_spec_l1Int (k : Nat) : Tbl := tcons 154 (ftab (.c (.val (.int .i64)) .e) (F_spec_l1Int k)) (E_spec_bfKind k)
theorem E_spec_l1Int_ok (k : Nat) : SoundE Tryd.prog glob (E_spec_l1Int k) ∧ NatE (E_spec_l1Int k) := ⟨tcons_sound (s_spec_l1Int k) (E_spec_bfKind_ok k).1, tcons_nat (s_spec_l1Int k) (E_spec_bfKind_ok k).2⟩
/-- spec.bfTerrain -/
def cx_spec_bfTerrain : Cx := { N := 38, G := glob, C := tys, ad := fun d => false, wk := false }
def sp_spec_bfTerrain_l0 : LSp where
  cv := []
  ts := [(1, .ptr 1), (3, .val .str), (21, .val (.sl (.int .i64))), (22, .val (.int .i64)), (23, .val (.int .i64))]
  ids := [(1, .box (.st (.pair .str (.pair (.sl (.int .i64)) (.pair (.int .i64) (.pair (.int .i64) .bool))))) (.val (.st (.pair .str (.pair (.sl (.int .i64)) (.pair (.int .i64) (.pair (.int .i64) .bool)))))))]
  tx := fun e => match e with | .exit i => bif Nat.beq i 0 then [1, 3] else [] | .ret => [] | .normal => []
  ix := fun e => match e with | .exit i => bif Nat.beq i 0 then [1] else [] | .ret => [] | .normal => []
def F_spec_bfTerrain_l0 (k : Nat) : LArg sp_spec_bfTerrain_l0 := fun K n x y => spec_bfTerrain_l0 k (fun (y0 : ByteArray) (y1 : ByteArray × (List Int) × Int × Int × Bool) => K (.exit 0) (mkSt [(1, .ptr 1 1 []), (3, .val .str y0)] [(1, some (.box (.st (.pair .str (.pair (.sl (.int .i64)) (.pair (.int .i64) (.pair (.int .i64) .bool))))) (.val (.st (.pair .str (.pair (.sl (.int .i64)) (.pair (.int .i64) (.pair (.int .i64) .bool))))) y1)))])) n x.2.1 x.2.2.1 x.2.2.2.1 x.2.2.2.2.1 y.1
def LO_spec_bfTerrain_l0 (k : Nat) : LTbl := (lcons 3 (ltab sp_spec_bfTerrain_l0 (F_spec_bfTerrain_l0 k) k) lnil)
theorem lk_spec_bfTerrain_l0 (k : Nat) : LoopsOK Tryd.prog glob (E_spec_l1Int k) cx_spec_bfTerrain (LO_spec_bfTerrain_l0 k) ((3, (loopB Tryd.f138 3)) :: []) :=
  LoopsOK.cons (LoopsOK.nil) (E_spec_l1Int_ok k).2 (F := F_spec_bfTerrain_l0 k) k [] (by kernel_rfl) (by kernel_rfl) (fun K x y => rfl) (fun n x y K => by kernel_rfl)
def F_spec_bfTerrain (k : Nat) : FArg (.c (.val (.st (.pair .str (.pair (.sl (.int .i64)) (.pair (.int .i64) (.pair (.int .i64) .bool)))))) .e) := fun x K => spec_bfTerrain k x.1 (fun (r0 : ByteArray) => K [⟨.str, r0, true⟩])
theorem s_spec_bfTerrain (k : Nat) : SoundF Tryd.prog glob 138 (ftab (.c (.val (.st (.pair .str (.pair (.sl (.int .i64)) (.pair (.int .i64) (.pair (.int .i64) .bool)))))) .e) (F_spec_bfTerrain k)) :=
  fun_ok (cx := cx_spec_bfTerrain) (by kernel_rfl) ⟨types, (E_spec_l1Int_ok k).1, (E_spec_l1Int_ok k).2, mixed, rfl⟩ Tryd.func138 rfl (lk_spec_bfTerrain_l0 k) [0] (by kernel_rfl) (fun x K => by kernel_rfl)
def E_spec_bfTerrain (k : Nat) : Tbl := tcons 138 (ftab (.c (.val (.st (.pair .str (.pair (.sl (.int .i64)) (.pair (.int .i64) (.pair (.int .i64) .bool)))))) .e) (F_spec_bfTerrain k)) (E_spec_l1Int k)
theorem E_spec_bfTerrain_ok (k : Nat) : SoundE Tryd.prog glob (E_spec_bfTerrain k) ∧ NatE (E_spec_bfTerrain k) := ⟨tcons_sound (s_spec_bfTerrain k) (E_spec_l1Int_ok k).1, tcons_nat (s_spec_bfTerrain k) (E_spec_l1Int_ok k).2⟩
/-- spec.bfText -/
def cx_spec_bfText : Cx := { N := 57, G := glob, C := tys, ad := fun d => false, wk := false }
def sp_spec_bfText_l0 : LSp where
  cv := []
  ts := [(1, .ptr 1), (3, .val .str), (10, .val (.sl .str)), (11, .val (.int .i64)), (12, .val (.int .i64))]
  ids := [(1, .box (.st (.pair (.sl (.st (.pair .str (.pair (.sl (.int .i64)) (.pair (.int .i64) (.pair (.int .i64) .bool)))))) (.pair (.sl (.st (.pair .str (.pair (.int .i64) (.pair (.int .i64) (.pair (.int .i64) (.pair .bool (.int .i64)))))))) (.pair (.int .i64) (.pair (.int .i64) (.pair (.int .i64) (.pair (.int .i64) (.int .i64)))))))) (.val (.st (.pair (.sl (.st (.pair .str (.pair (.sl (.int .i64)) (.pair (.int .i64) (.pair (.int .i64) .bool)))))) (.pair (.sl (.st (.pair .str (.pair (.int .i64) (.pair (.int .i64) (.pair (.int .i64) (.pair .bool (.int .i64)))))))) (.pair (.int .i64) (.pair (.int .i64) (.pair (.int .i64) (.pair (.int .i64) (.int .i64))))))))))]
  tx := fun e => match e with | .exit i => bif Nat.beq i 0 then [1, 3] else [] | .ret => [] | .normal => []
  ix := fun e => match e with | .exit i => bif Nat.beq i 0 then [1] else [] | .ret => [] | .normal => []
def F_spec_bfText_l0 (k : Nat) : LArg sp_spec_bfText_l0 := fun K n x y => spec_bfText_l0 k (fun (y0 : ByteArray) (y1 : (List (ByteArray × (List Int) × Int × Int × Bool)) × (List (ByteArray × Int × Int × Int × Bool × Int)) × Int × Int × Int × Int × Int) => K (.exit 0) (mkSt [(1, .ptr 1 1 []), (3, .val .str y0)] [(1, some (.box (.st (.pair (.sl (.st (.pair .str (.pair (.sl (.int .i64)) (.pair (.int .i64) (.pair (.int .i64) .bool)))))) (.pair (.sl (.st (.pair .str (.pair (.int .i64) (.pair (.int .i64) (.pair (.int .i64) (.pair .bool (.int .i64)))))))) (.pair (.int .i64) (.pair (.int .i64) (.pair (.int .i64) (.pair (.int .i64) (.int .i64)))))))) (.val (.st (.pair (.sl (.st (.pair .str (.pair (.sl (.int .i64)) (.pair (.int .i64) (.pair (.int .i64) .bool)))))) (.pair (.sl (.st (.pair .str (.pair (.int .i64) (.pair (.int .i64) (.pair (.int .i64) (.pair .bool (.int .i64)))))))) (.pair (.int .i64) (.pair (.int .i64) (.pair (.int .i64) (.pair (.int .i64) (.int .i64)))))))) y1)))])) n x.2.1 x.2.2.1 x.2.2.2.1 x.2.2.2.2.1 y.1
def LO_spec_bfText_l0 (k : Nat) : LTbl := (lcons 3 (ltab sp_spec_bfText_l0 (F_spec_bfText_l0 k) k) lnil)
theorem lk_spec_bfText_l0 (k : Nat) : LoopsOK Tryd.prog glob (E_spec_bfTerrain k) cx_spec_bfText (LO_spec_bfText_l0 k) ((3, (loopB Tryd.f100 3)) :: []) :=
  LoopsOK.cons (LoopsOK.nil) (E_spec_bfTerrain_ok k).2 (F := F_spec_bfText_l0 k) k [] (by kernel_rfl) (by kernel_rfl) (fun K x y => rfl) (fun n x y K => by kernel_rfl)
def sp_spec_bfText_l1 : LSp where
  cv := []
  ts := [(1, .ptr 1), (3, .val .str), (31, .val (.sl (.st (.pair .str (.pair (.int .i64) (.pair (.int .i64) (.pair (.int .i64) (.pair .bool (.int .i64))))))))), (32, .val (.int .i64)), (33, .val (.int .i64))]
  ids := [(1, .box (.st (.pair (.sl (.st (.pair .str (.pair (.sl (.int .i64)) (.pair (.int .i64) (.pair (.int .i64) .bool)))))) (.pair (.sl (.st (.pair .str (.pair (.int .i64) (.pair (.int .i64) (.pair (.int .i64) (.pair .bool (.int .i64)))))))) (.pair (.int .i64) (.pair (.int .i64) (.pair (.int .i64) (.pair (.int .i64) (.int .i64)))))))) (.val (.st (.pair (.sl (.st (.pair .str (.pair (.sl (.int .i64)) (.pair (.int .i64) (.pair (.int .i64) .bool)))))) (.pair (.sl (.st (.pair .str (.pair (.int .i64) (.pair (.int .i64) (.pair (.int .i64) (.pair .bool (.int .i64)))))))) (.pair (.int .i64) (.pair (.int .i64) (.pair (.int .i64) (.pair (.int .i64) (.int .i64))))))))))]
  tx := fun e => match e with | .exit i => bif Nat.beq i 2 then [1, 3] else [] | .ret => [] | .normal => []
  ix := fun e => match e with | .exit i => bif Nat.beq i 2 then [1] else [] | .ret => [] | .normal => []
def F_spec_bfText_l1 (k : Nat) : LArg sp_spec_bfText_l1 := fun K n x y => spec_bfText_l1 k (fun (y0 : ByteArray) (y1 : (List (ByteArray × (List Int) × Int × Int × Bool)) × (List (ByteArray × Int × Int × Int × Bool × Int)) × Int × Int × Int × Int × Int) => K (.exit 2) (mkSt [(1, .ptr 1 1 []), (3, .val .str y0)] [(1, some (.box (.st (.pair (.sl (.st (.pair .str (.pair (.sl (.int .i64)) (.pair (.int .i64) (.pair (.int .i64) .bool)))))) (.pair (.sl (.st (.pair .str (.pair (.int .i64) (.pair (.int .i64) (.pair (.int .i64) (.pair .bool (.int .i64)))))))) (.pair (.int .i64) (.pair (.int .i64) (.pair (.int .i64) (.pair (.int .i64) (.int .i64)))))))) (.val (.st (.pair (.sl (.st (.pair .str (.pair (.sl (.int .i64)) (.pair (.int .i64) (.pair (.int .i64) .bool)))))) (.pair (.sl (.st (.pair .str (.pair (.int .i64) (.pair (.int .i64) (.pair (.int .i64) (.pair .bool (.int .i64)))))))) (.pair (.int .i64) (.pair (.int .i64) (.pair (.int .i64) (.pair (.int .i64) (.int .i64)))))))) y1)))])) n x.2.1 x.2.2.1 x.2.2.2.1 x.2.2.2.2.1 y.1
def LO_spec_bfText_l1 (k : Nat) : LTbl := (lcons 8 (ltab sp_spec_bfText_l1 (F_spec_bfText_l1 k) k) (LO_spec_bfText_l0 k))
theorem lk_spec_bfText_l1 (k : Nat) : LoopsOK Tryd.prog glob (E_spec_bfTerrain k) cx_spec_bfText (LO_spec_bfText_l1 k) ((8, (loopB Tryd.f100 8)) :: ((3, (loopB Tryd.f100 3)) :: [])) :=
  LoopsOK.cons (lk_spec_bfText_l0 k) (E_spec_bfTerrain_ok k).2 (F := F_spec_bfText_l1 k) k [] (by kernel_rfl) (by kernel_rfl) (fun K x y => rfl) (fun n x y K => by kernel_rfl)
def sp_spec_bfText_l2 : LSp where
  cv := []
  ts := [(3, .val .str), (44, .val (.sl (.st (.pair .str (.pair (.sl (.int .i64)) (.pair (.int .i64) (.pair (.int .i64) .bool))))))), (45, .val (.int .i64)), (46, .val (.int .i64))]
  ids := []
  tx := fun e => match e with | .exit i => bif Nat.beq i 4 then [3] else [] | .ret => [] | .normal => []
  ix := fun e => match e with | .exit i => bif Nat.beq i 4 then [] else [] | .ret => [] | .normal => []
def F_spec_bfText_l2 (k : Nat) : LArg sp_spec_bfText_l2 := fun K n x y => spec_bfText_l2 k (fun (y0 : ByteArray) => K (.exit 4) (mkSt [(3, .val .str y0)] [])) n x.1 x.2.1 x.2.2.1 x.2.2.2.1
def LO_spec_bfText_l2 (k : Nat) : LTbl := (lcons 13 (ltab sp_spec_bfText_l2 (F_spec_bfText_l2 k) k) (LO_spec_bfText_l1 k))
theorem lk_spec_bfText_l2 (k : Nat) : LoopsOK Tryd.prog glob (E_spec_bfTerrain k) cx_spec_bfText (LO_spec_bfText_l2 k) ((13, (loopB Tryd.f100 13)) :: ((8, (loopB Tryd.f100 8)) :: ((3, (loopB Tryd.f100 3)) :: []))) :=
  LoopsOK.cons (lk_spec_bfText_l1 k) (E_spec_bfTerrain_ok k).2 (F := F_spec_bfText_l2 k) k [] (by kernel_rfl) (by kernel_rfl) (fun K x y => rfl) (fun n x y K => by kernel_rfl)
def F_spec_bfText (k : Nat) : FArg (.c (.val (.st (.pair (.sl (.st (.pair .str (.pair (.sl (.int .i64)) (.pair (.int .i64) (.pair (.int .i64) .bool)))))) (.pair (.sl (.st (.pair .str (.pair (.int .i64) (.pair (.int .i64) (.pair (.int .i64) (.pair .bool (.int .i64)))))))) (.pair (.int .i64) (.pair (.int .i64) (.pair (.int .i64) (.pair (.int .i64) (.int .i64))))))))) .e) := fun x K => spec_bfText k x.1 (fun (r0 : ByteArray) => K [⟨.str, r0, true⟩])
theorem s_spec_bfText (k : Nat) : SoundF Tryd.prog glob 100 (ftab (.c (.val (.st (.pair (.sl (.st (.pair .str (.pair (.sl (.int .i64)) (.pair (.int .i64) (.pair (.int .i64) .bool)))))) (.pair (.sl (.st (.pair .str (.pair (.int .i64) (.pair (.int .i64) (.pair (.int .i64) (.pair .bool (.int .i64)))))))) (.pair (.int .i64) (.pair (.int .i64) (.pair (.int .i64) (.pair (.int .i64) (.int .i64))))))))) .e) (F_spec_bfText k)) :=
  fun_ok (cx := cx_spec_bfText) (by kernel_rfl) ⟨types, (E_spec_bfTerrain_ok k).1, (E_spec_bfTerrain_ok k).2, mixed, rfl⟩ Tryd.func100 rfl (lk_spec_bfText_l2 k) [2, 1, 0] (by kernel_rfl) (fun x K => by kernel_rfl)
def E_spec_bfText (k : Nat) : Tbl := tcons 100 (ftab (.c (.val (.st (.pair (.sl (.st (.pair .str (.pair (.sl (.int .i64)) (.pair (.int .i64) (.pair (.int .i64) .bool)))))) (.pair (.sl (.st (.pair .str (.pair (.int .i64) (.pair (.int .i64) (.pair (.int .i64) (.pair .bool (.int .i64)))))))) (.pair (.int .i64) (.pair (.int .i64) (.pair (.int .i64) (.pair (.int .i64) (.int .i64))))))))) .e) (F_spec_bfText k)) (E_spec_bfTerrain k)
theorem E_spec_bfText_ok (k : Nat) : SoundE Tryd.prog glob (E_spec_bfText k) ∧ NatE (E_spec_bfText k) := ⟨tcons_sound (s_spec_bfText k) (E_spec_bfTerrain_ok k).1, tcons_nat (s_spec_bfText k) (E_spec_bfTerrain_ok k).2⟩
/-- spec.RulesText -/
def cx_spec_RulesText : Cx := { N := 9, G := glob, C := tys, ad := fun d => false, wk := false }
def F_spec_RulesText (k : Nat) : FArg (.c (.val (.st (.pair (.sl (.st (.pair .str (.pair (.sl (.int .i64)) (.pair (.int .i64) (.pair (.int .i64) .bool)))))) (.pair (.sl (.st (.pair .str (.pair (.int .i64) (.pair (.int .i64) (.pair (.int .i64) (.pair .bool (.int .i64)))))))) (.pair (.int .i64) (.pair (.int .i64) (.pair (.int .i64) (.pair (.int .i64) (.int .i64))))))))) .e) := fun x K => spec_RulesText k x.1 (fun (r0 : ByteArray) (r1 : Bool) => K [⟨.str, r0, true⟩, ⟨.bool, r1, true⟩])
theorem s_spec_RulesText (k : Nat) : SoundF Tryd.prog glob 52 (ftab (.c (.val (.st (.pair (.sl (.st (.pair .str (.pair (.sl (.int .i64)) (.pair (.int .i64) (.pair (.int .i64) .bool)))))) (.pair (.sl (.st (.pair .str (.pair (.int .i64) (.pair (.int .i64) (.pair (.int .i64) (.pair .bool (.int .i64)))))))) (.pair (.int .i64) (.pair (.int .i64) (.pair (.int .i64) (.pair (.int .i64) (.int .i64))))))))) .e) (F_spec_RulesText k)) :=
  fun_ok (cx := cx_spec_RulesText) (by kernel_rfl) ⟨types, (E_spec_bfText_ok k).1, (E_spec_bfText_ok k).2, mixed, rfl⟩ Tryd.func52 rfl (LoopsOK.nil) [] (by kernel_rfl) (fun x K => by kernel_rfl)
def E_spec_RulesText (k : Nat) : Tbl := tcons 52 (ftab (.c (.val (.st (.pair (.sl (.st (.pair .str (.pair (.sl (.int .i64)) (.pair (.int .i64) (.pair (.int .i64) .bool)))))) (.pair (.sl (.st (.pair .str (.pair (.int .i64) (.pair (.int .i64) (.pair (.int .i64) (.pair .bool (.int .i64)))))))) (.pair (.int .i64) (.pair (.int .i64) (.pair (.int .i64) (.pair (.int .i64) (.int .i64))))))))) .e) (F_spec_RulesText k)) (E_spec_bfText k)
theorem E_spec_RulesText_ok (k : Nat) : SoundE Tryd.prog glob (E_spec_RulesText k) ∧ NatE (E_spec_RulesText k) := ⟨tcons_sound (s_spec_RulesText k) (E_spec_bfText_ok k).1, tcons_nat (s_spec_RulesText k) (E_spec_bfText_ok k).2⟩
/-- impl.inRange -/
def cx_impl_inRange : Cx := { N := 15, G := glob, C := tys, ad := fun d => false, wk := false }
def F_impl_inRange (k : Nat) : FArg (.c (.val (.int .i64)) (.c (.val (.int .i64)) (.c (.val (.int .i64)) .e))) := fun x K => impl_inRange x.1 x.2.1 x.2.2.1 (fun (r0 : Bool) => K [⟨.bool, r0, true⟩])
theorem s_impl_inRange (k : Nat) : SoundF Tryd.prog glob 103 (ftab (.c (.val (.int .i64)) (.c (.val (.int .i64)) (.c (.val (.int .i64)) .e))) (F_impl_inRange k)) :=
  fun_ok (cx := cx_impl_inRange) (by kernel_rfl) ⟨types, (E_spec_RulesText_ok k).1, (E_spec_RulesText_ok k).2, mixed, rfl⟩ Tryd.func103 rfl (LoopsOK.nil) [] (by kernel_rfl) (fun x K => by kernel_rfl)
def E_impl_inRange (k : Nat) : Tbl := tcons 103 (ftab (.c (.val (.int .i64)) (.c (.val (.int .i64)) (.c (.val (.int .i64)) .e))) (F_impl_inRange k)) (E_spec_RulesText k)
theorem E_impl_inRange_ok (k : Nat) : SoundE Tryd.prog glob (E_impl_inRange k) ∧ NatE (E_impl_inRange k) := ⟨tcons_sound (s_impl_inRange k) (E_spec_RulesText_ok k).1, tcons_nat (s_impl_inRange k) (E_spec_RulesText_ok k).2⟩
/-- impl.isName -/
def cx_impl_isName : Cx := { N := 23, G := glob, C := tys, ad := fun d => false, wk := false }
def sp_impl_isName_l0 : LSp where
  cv := []
  ts := [(0, .val .str), (3, .val (.int .i64))]
  ids := []
  tx := fun e => match e with | .exit i => bif Nat.beq i 0 then [0] else [] | .ret => [2] | .normal => []
  ix := fun e => match e with | .exit i => bif Nat.beq i 0 then [] else [] | .ret => [] | .normal => []
def F_impl_isName_l0 (k : Nat) : LArg sp_impl_isName_l0 := fun K n x y => impl_isName_l0 k (fun (y0 : ByteArray) => K (.exit 0) (mkSt [(0, .val .str y0)] [])) (fun (y0 : Bool) => K (.ret) (mkSt [(2, .val .bool y0)] [])) n x.1 x.2.1
def LO_impl_isName_l0 (k : Nat) : LTbl := (lcons 2 (ltab sp_impl_isName_l0 (F_impl_isName_l0 k) k) lnil)
theorem lk_impl_isName_l0 (k : Nat) : LoopsOK Tryd.prog glob (E_impl_inRange k) cx_impl_isName (LO_impl_isName_l0 k) ((2, (loopB Tryd.f143 2)) :: []) :=
  LoopsOK.cons (LoopsOK.nil) (E_impl_inRange_ok k).2 (F := F_impl_isName_l0 k) k [] (by kernel_rfl) (by kernel_rfl) (fun K x y => rfl) (fun n x y K => by kernel_rfl)
def F_impl_isName (k : Nat) : FArg (.c (.val .str) .e) := fun x K => impl_isName k x.1 (fun (r0 : Bool) => K [⟨.bool, r0, true⟩])
theorem s_impl_isName (k : Nat) : SoundF Tryd.prog glob 143 (ftab (.c (.val .str) .e) (F_impl_isName k)) :=
  fun_ok (cx := cx_impl_isName) (by kernel_rfl) ⟨types, (E_impl_inRange_ok k).1, (E_impl_inRange_ok k).2, mixed, rfl⟩ Tryd.func143 rfl (lk_impl_isName_l0 k) [0] (by kernel_rfl) (fun x K => by kernel_rfl)
def E_impl_isName (k : Nat) : Tbl := tcons 143 (ftab (.c (.val .str) .e) (F_impl_isName k)) (E_impl_inRange k)
theorem E_impl_isName_ok (k : Nat) : SoundE Tryd.prog glob (E_impl_isName k) ∧ NatE (E_impl_isName k) := ⟨tcons_sound (s_impl_isName k) (E_impl_inRange_ok k).1, tcons_nat (s_impl_isName k) (E_impl_inRange_ok k).2⟩
/-- impl.goodTerrain$1 -/
def cx_impl_goodTerrain_1 : Cx := { N := 6, G := glob, C := tys, ad := fun d => false, wk := false }
def F_impl_goodTerrain_1 (k : Nat) : FArg (.c (.val (.int .i64)) .e) := fun x K => impl_goodTerrain_1 x.1 (fun (r0 : Bool) => K [⟨.bool, r0, true⟩])
theorem s_impl_goodTerrain_1 (k : Nat) : SoundF Tryd.prog glob 144 (ftab (.c (.val (.int .i64)) .e) (F_impl_goodTerrain_1 k)) :=
  fun_ok (cx := cx_impl_goodTerrain_1) (by kernel_rfl) ⟨types, (E_impl_isName_ok k).1, (E_impl_isName_ok k).2, mixed, rfl⟩ Tryd.func144 rfl (LoopsOK.nil) [] (by kernel_rfl) (fun x K => by kernel_rfl)
def E_impl_goodTerrain_1 (k : Nat) : Tbl := tcons 144 (ftab (.c (.val (.int .i64)) .e) (F_impl_goodTerrain_1 k)) (E_impl_isName k)
theorem E_impl_goodTerrain_1_ok (k : Nat) : SoundE Tryd.prog glob (E_impl_goodTerrain_1 k) ∧ NatE (E_impl_goodTerrain_1 k) := ⟨tcons_sound (s_impl_goodTerrain_1 k) (E_impl_isName_ok k).1, tcons_nat (s_impl_goodTerrain_1 k) (E_impl_isName_ok k).2⟩
/-- slices.IndexFunc[[]int,int] -/
def cx_slices_IndexFunc_Sint_int__impl_goodTerrain_1 : Cx := { N := 19, G := glob, C := tys, ad := fun d => false, wk := false }
def sp_slices_IndexFunc_Sint_int__impl_goodTerrain_1_l0 : LSp where
  cv := []
  ts := [(0, .val (.sl (.int .i64))), (1, .fn 144 .e), (7, .val (.int .i64)), (8, .val (.int .i64))]
  ids := []
  tx := fun e => match e with | .exit i => bif Nat.beq i 0 then [] else [] | .ret => [4] | .normal => []
  ix := fun e => match e with | .exit i => bif Nat.beq i 0 then [] else [] | .ret => [] | .normal => []
def F_slices_IndexFunc_Sint_int__impl_goodTerrain_1_l0 (k : Nat) : LArg sp_slices_IndexFunc_Sint_int__impl_goodTerrain_1_l0 := fun K n x y => slices_IndexFunc_Sint_int__impl_goodTerrain_1_l0 k (K (.exit 0) (mkSt [] [])) (fun (y0 : Int) => K (.ret) (mkSt [(4, .val (.int .i64) y0)] [])) n x.1 x.2.2.1 x.2.2.2.1
def LO_slices_IndexFunc_Sint_int__impl_goodTerrain_1_l0 (k : Nat) : LTbl := (lcons 2 (ltab sp_slices_IndexFunc_Sint_int__impl_goodTerrain_1_l0 (F_slices_IndexFunc_Sint_int__impl_goodTerrain_1_l0 k) k) lnil)
theorem lk_slices_IndexFunc_Sint_int__impl_goodTerrain_1_l0 (k : Nat) : LoopsOK Tryd.prog glob (E_impl_goodTerrain_1 k) cx_slices_IndexFunc_Sint_int__impl_goodTerrain_1 (LO_slices_IndexFunc_Sint_int__impl_goodTerrain_1_l0 k) ((2, (loopB Tryd.f110 2)) :: []) :=
  LoopsOK.cons (LoopsOK.nil) (E_impl_goodTerrain_1_ok k).2 (F := F_slices_IndexFunc_Sint_int__impl_goodTerrain_1_l0 k) k [] (by kernel_rfl) (by kernel_rfl) (fun K x y => rfl) (fun n x y K => by kernel_rfl)
def F_slices_IndexFunc_Sint_int__impl_goodTerrain_1 (k : Nat) : FArg (.c (.val (.sl (.int .i64))) (.c (.fn 144 .e) .e)) := fun x K => slices_IndexFunc_Sint_int__impl_goodTerrain_1 k x.1 (fun (r0 : Int) => K [⟨(.int .i64), r0, true⟩])
theorem s_slices_IndexFunc_Sint_int__impl_goodTerrain_1 (k : Nat) : SoundF Tryd.prog glob 110 (ftab (.c (.val (.sl (.int .i64))) (.c (.fn 144 .e) .e)) (F_slices_IndexFunc_Sint_int__impl_goodTerrain_1 k)) :=
  fun_ok (cx := cx_slices_IndexFunc_Sint_int__impl_goodTerrain_1) (by kernel_rfl) ⟨types, (E_impl_goodTerrain_1_ok k).1, (E_impl_goodTerrain_1_ok k).2, mixed, rfl⟩ Tryd.func110 rfl (lk_slices_IndexFunc_Sint_int__impl_goodTerrain_1_l0 k) [0] (by kernel_rfl) (fun x K => by kernel_rfl)
def E_slices_IndexFunc_Sint_int__impl_goodTerrain_1 (k : Nat) : Tbl := tcons 110 (ftab (.c (.val (.sl (.int .i64))) (.c (.fn 144 .e) .e)) (F_slices_IndexFunc_Sint_int__impl_goodTerrain_1 k)) (E_impl_goodTerrain_1 k)
theorem E_slices_IndexFunc_Sint_int__impl_goodTerrain_1_ok (k : Nat) : SoundE Tryd.prog glob (E_slices_IndexFunc_Sint_int__impl_goodTerrain_1 k) ∧ NatE (E_slices_IndexFunc_Sint_int__impl_goodTerrain_1 k) := ⟨tcons_sound (s_slices_IndexFunc_Sint_int__impl_goodTerrain_1 k) (E_impl_goodTerrain_1_ok k).1, tcons_nat (s_slices_IndexFunc_Sint_int__impl_goodTerrain_1 k) (E_impl_goodTerrain_1_ok k).2⟩
/-- slices.ContainsFunc[[]int,int] -/
def cx_slices_ContainsFunc_Sint_int__impl_goodTerrain_1 : Cx := { N := 9, G := glob, C := tys, ad := fun d => false, wk := false }
def F_slices_ContainsFunc_Sint_int__impl_goodTerrain_1 (k : Nat) : FArg (.c (.val (.sl (.int .i64))) (.c (.fn 144 .e) .e)) := fun x K => slices_ContainsFunc_Sint_int__impl_goodTerrain_1 k x.1 (fun (r0 : Bool) => K [⟨.bool, r0, true⟩])
theorem s_slices_ContainsFunc_Sint_int__impl_goodTerrain_1 (k : Nat) : SoundF Tryd.prog glob 57 (ftab (.c (.val (.sl (.int .i64))) (.c (.fn 144 .e) .e)) (F_slices_ContainsFunc_Sint_int__impl_goodTerrain_1 k)) :=
  fun_ok (cx := cx_slices_ContainsFunc_Sint_int__impl_goodTerrain_1) (by kernel_rfl) ⟨types, (E_slices_IndexFunc_Sint_int__impl_goodTerrain_1_ok k).1, (E_slices_IndexFunc_Sint_int__impl_goodTerrain_1_ok k).2, mixed, rfl⟩ Tryd.func57 rfl (LoopsOK.nil) [] (by kernel_rfl) (fun x K => by kernel_rfl)
def E_slices_ContainsFunc_Sint_int__impl_goodTerrain_1 (k : Nat) : Tbl := tcons 57 (ftab (.c (.val (.sl (.int .i64))) (.c (.fn 144 .e) .e)) (F_slices_ContainsFunc_Sint_int__impl_goodTerrain_1 k)) (E_slices_IndexFunc_Sint_int__impl_goodTerrain_1 k)
theorem E_slices_ContainsFunc_Sint_int__impl_goodTerrain_1_ok (k : Nat) : SoundE Tryd.prog glob (E_slices_ContainsFunc_Sint_int__impl_goodTerrain_1 k) ∧ NatE (E_slices_ContainsFunc_Sint_int__impl_goodTerrain_1 k) := ⟨tcons_sound (s_slices_ContainsFunc_Sint_int__impl_goodTerrain_1 k) (E_slices_IndexFunc_Sint_int__impl_goodTerrain_1_ok k).1, tcons_nat (s_slices_ContainsFunc_Sint_int__impl_goodTerrain_1 k) (E_slices_IndexFunc_Sint_int__impl_goodTerrain_1_ok k).2⟩
/-- impl.goodTerrain -/
def cx_impl_goodTerrain : Cx := { N := 32, G := glob, C := tys, ad := fun d => false, wk := false }
def F_impl_goodTerrain (k : Nat) : FArg (.c (.val (.st (.pair .str (.pair (.sl (.int .i64)) (.pair (.int .i64) (.pair (.int .i64) .bool)))))) (.c (.val (.int .i64)) .e)) := fun x K => impl_goodTerrain k x.1 x.2.1 (fun (r0 : Bool) => K [⟨.bool, r0, true⟩])
theorem s_impl_goodTerrain (k : Nat) : SoundF Tryd.prog glob 104 (ftab (.c (.val (.st (.pair .str (.pair (.sl (.int .i64)) (.pair (.int .i64) (.pair (.int .i64) .bool)))))) (.c (.val (.int .i64)) .e)) (F_impl_goodTerrain k)) :=
  fun_ok (cx := cx_impl_goodTerrain) (by kernel_rfl) ⟨types, (E_slices_ContainsFunc_Sint_int__impl_goodTerrain_1_ok k).1, (E_slices_ContainsFunc_Sint_int__impl_goodTerrain_1_ok k).2, mixed, rfl⟩ Tryd.func104 rfl (LoopsOK.nil) [] (by kernel_rfl) (fun x K => by kernel_rfl)
def E_impl_goodTerrain (k : Nat) : Tbl := tcons 104 (ftab (.c (.val (.st (.pair .str (.pair (.sl (.int .i64)) (.pair (.int .i64) (.pair (.int .i64) .bool)))))) (.c (.val (.int .i64)) .e)) (F_impl_goodTerrain k)) (E_slices_ContainsFunc_Sint_int__impl_goodTerrain_1 k)
theorem E_impl_goodTerrain_ok (k : Nat) : SoundE Tryd.prog glob (E_impl_goodTerrain k) ∧ NatE (E_impl_goodTerrain k) := ⟨tcons_sound (s_impl_goodTerrain k) (E_slices_ContainsFunc_Sint_int__impl_goodTerrain_1_ok k).1, tcons_nat (s_impl_goodTerrain k) (E_slices_ContainsFunc_Sint_int__impl_goodTerrain_1_ok k).2⟩
/-- impl.terrainIndex$1 -/
def cx_impl_terrainIndex_1 : Cx := { N := 8, G := glob, C := tys, ad := fun d => false, wk := false }
def F_impl_terrainIndex_1 (k : Nat) : FArg (.c (.val (.st (.pair .str (.pair (.sl (.int .i64)) (.pair (.int .i64) (.pair (.int .i64) .bool)))))) (.c (.pval .str) .e)) := fun x K => impl_terrainIndex_1 x.1 x.2.1 (fun (r0 : Bool) => K [⟨.bool, r0, true⟩])
theorem s_impl_terrainIndex_1 (k : Nat) : SoundF Tryd.prog glob 146 (ftab (.c (.val (.st (.pair .str (.pair (.sl (.int .i64)) (.pair (.int .i64) (.pair (.int .i64) .bool)))))) (.c (.pval .str) .e)) (F_impl_terrainIndex_1 k)) :=
  fun_ok (cx := cx_impl_terrainIndex_1) (by kernel_rfl) ⟨types, (E_impl_goodTerrain_ok k).1, (E_impl_goodTerrain_ok k).2, mixed, rfl⟩ Tryd.func146 rfl (LoopsOK.nil) [] (by kernel_rfl) (fun x K => by kernel_rfl)
def E_impl_terrainIndex_1 (k : Nat) : Tbl := tcons 146 (ftab (.c (.val (.st (.pair .str (.pair (.sl (.int .i64)) (.pair (.int .i64) (.pair (.int .i64) .bool)))))) (.c (.pval .str) .e)) (F_impl_terrainIndex_1 k)) (E_impl_goodTerrain k)
theorem E_impl_terrainIndex_1_ok (k : Nat) : SoundE Tryd.prog glob (E_impl_terrainIndex_1 k) ∧ NatE (E_impl_terrainIndex_1 k) := ⟨tcons_sound (s_impl_terrainIndex_1 k) (E_impl_goodTerrain_ok k).1, tcons_nat (s_impl_terrainIndex_1 k) (E_impl_goodTerrain_ok k).2⟩
/-- slices.IndexFunc[[]impl.Terrain,impl.Terrain] -/
def cx_slices_IndexFunc_Simpl_Terrain_impl_Terrain__impl_terrainIndex_1 : Cx := { N := 19, G := glob, C := tys, ad := fun d => false, wk := false }
def sp_slices_IndexFunc_Simpl_Terrain_impl_Terrain__impl_terrainIndex_1_l0 : LSp where
  cv := []
  ts := [(0, .val (.sl (.st (.pair .str (.pair (.sl (.int .i64)) (.pair (.int .i64) (.pair (.int .i64) .bool))))))), (1, .fn 146 (.c (.pval .str) .e)), (7, .val (.int .i64)), (8, .val (.int .i64))]
  ids := []
  tx := fun e => match e with | .exit i => bif Nat.beq i 0 then [] else [] | .ret => [4] | .normal => []
  ix := fun e => match e with | .exit i => bif Nat.beq i 0 then [] else [] | .ret => [] | .normal => []
def F_slices_IndexFunc_Simpl_Terrain_impl_Terrain__impl_terrainIndex_1_l0 (k : Nat) : LArg sp_slices_IndexFunc_Simpl_Terrain_impl_Terrain__impl_terrainIndex_1_l0 := fun K n x y => slices_IndexFunc_Simpl_Terrain_impl_Terrain__impl_terrainIndex_1_l0 k (K (.exit 0) (mkSt [] [])) (fun (y0 : Int) => K (.ret) (mkSt [(4, .val (.int .i64) y0)] [])) n x.1 x.2.1.1 x.2.2.1 x.2.2.2.1
def LO_slices_IndexFunc_Simpl_Terrain_impl_Terrain__impl_terrainIndex_1_l0 (k : Nat) : LTbl := (lcons 2 (ltab sp_slices_IndexFunc_Simpl_Terrain_impl_Terrain__impl_terrainIndex_1_l0 (F_slices_IndexFunc_Simpl_Terrain_impl_Terrain__impl_terrainIndex_1_l0 k) k) lnil)
theorem lk_slices_IndexFunc_Simpl_Terrain_impl_Terrain__impl_terrainIndex_1_l0 (k : Nat) : LoopsOK Tryd.prog glob (E_impl_terrainIndex_1 k) cx_slices_IndexFunc_Simpl_Terrain_impl_Terrain__impl_terrainIndex_1 (LO_slices_IndexFunc_Simpl_Terrain_impl_Terrain__impl_terrainIndex_1_l0 k) ((2, (loopB Tryd.f145 2)) :: []) :=
  LoopsOK.cons (LoopsOK.nil) (E_impl_terrainIndex_1_ok k).2 (F := F_slices_IndexFunc_Simpl_Terrain_impl_Terrain__impl_terrainIndex_1_l0 k) k [] (by kernel_rfl) (by kernel_rfl) (fun K x y => rfl) (fun n x y K => by kernel_rfl)
def F_slices_IndexFunc_Simpl_Terrain_impl_Terrain__impl_terrainIndex_1 (k : Nat) : FArg (.c (.val (.sl (.st (.pair .str (.pair (.sl (.int .i64)) (.pair (.int .i64) (.pair (.int .i64) .bool))))))) (.c (.fn 146 (.c (.pval .str) .e)) .e)) := fun x K => slices_IndexFunc_Simpl_Terrain_impl_Terrain__impl_terrainIndex_1 k x.1 x.2.1.1 (fun (r0 : Int) => K [⟨(.int .i64), r0, true⟩])
theorem s_slices_IndexFunc_Simpl_Terrain_impl_Terrain__impl_terrainIndex_1 (k : Nat) : SoundF Tryd.prog glob 145 (ftab (.c (.val (.sl (.st (.pair .str (.pair (.sl (.int .i64)) (.pair (.int .i64) (.pair (.int .i64) .bool))))))) (.c (.fn 146 (.c (.pval .str) .e)) .e)) (F_slices_IndexFunc_Simpl_Terrain_impl_Terrain__impl_terrainIndex_1 k)) :=
  fun_ok (cx := cx_slices_IndexFunc_Simpl_Terrain_impl_Terrain__impl_terrainIndex_1) (by kernel_rfl) ⟨types, (E_impl_terrainIndex_1_ok k).1, (E_impl_terrainIndex_1_ok k).2, mixed, rfl⟩ Tryd.func145 rfl (lk_slices_IndexFunc_Simpl_Terrain_impl_Terrain__impl_terrainIndex_1_l0 k) [0] (by kernel_rfl) (fun x K => by kernel_rfl)
def E_slices_IndexFunc_Simpl_Terrain_impl_Terrain__impl_terrainIndex_1 (k : Nat) : Tbl := tcons 145 (ftab (.c (.val (.sl (.st (.pair .str (.pair (.sl (.int .i64)) (.pair (.int .i64) (.pair (.int .i64) .bool))))))) (.c (.fn 146 (.c (.pval .str) .e)) .e)) (F_slices_IndexFunc_Simpl_Terrain_impl_Terrain__impl_terrainIndex_1 k)) (E_impl_terrainIndex_1 k)
theorem E_slices_IndexFunc_Simpl_Terrain_impl_Terrain__impl_terrainIndex_1_ok (k : Nat) : SoundE Tryd.prog glob (E_slices_IndexFunc_Simpl_Terrain_impl_Terrain__impl_terrainIndex_1 k) ∧ NatE (E_slices_IndexFunc_Simpl_Terrain_impl_Terrain__impl_terrainIndex_1 k) := ⟨tcons_sound (s_slices_IndexFunc_Simpl_Terrain_impl_Terrain__impl_terrainIndex_1 k) (E_impl_terrainIndex_1_ok k).1, tcons_nat (s_slices_IndexFunc_Simpl_Terrain_impl_Terrain__impl_terrainIndex_1 k) (E_impl_terrainIndex_1_ok k).2⟩
/-- impl.terrainIndex -/
def cx_impl_terrainIndex : Cx := { N := 8, G := glob, C := tys, ad := fun d => false, wk := false }
def F_impl_terrainIndex (k : Nat) : FArg (.c (.val (.sl (.st (.pair .str (.pair (.sl (.int .i64)) (.pair (.int .i64) (.pair (.int .i64) .bool))))))) (.c (.val .str) .e)) := fun x K => impl_terrainIndex k x.1 x.2.1 (fun (r0 : Int) => K [⟨(.int .i64), r0, true⟩])
theorem s_impl_terrainIndex (k : Nat) : SoundF Tryd.prog glob 105 (ftab (.c (.val (.sl (.st (.pair .str (.pair (.sl (.int .i64)) (.pair (.int .i64) (.pair (.int .i64) .bool))))))) (.c (.val .str) .e)) (F_impl_terrainIndex k)) :=
  fun_ok (cx := cx_impl_terrainIndex) (by kernel_rfl) ⟨types, (E_slices_IndexFunc_Simpl_Terrain_impl_Terrain__impl_terrainIndex_1_ok k).1, (E_slices_IndexFunc_Simpl_Terrain_impl_Terrain__impl_terrainIndex_1_ok k).2, mixed, rfl⟩ Tryd.func105 rfl (LoopsOK.nil) [] (by kernel_rfl) (fun x K => by kernel_rfl)
def E_impl_terrainIndex (k : Nat) : Tbl := tcons 105 (ftab (.c (.val (.sl (.st (.pair .str (.pair (.sl (.int .i64)) (.pair (.int .i64) (.pair (.int .i64) .bool))))))) (.c (.val .str) .e)) (F_impl_terrainIndex k)) (E_slices_IndexFunc_Simpl_Terrain_impl_Terrain__impl_terrainIndex_1 k)
theorem E_impl_terrainIndex_ok (k : Nat) : SoundE Tryd.prog glob (E_impl_terrainIndex k) ∧ NatE (E_impl_terrainIndex k) := ⟨tcons_sound (s_impl_terrainIndex k) (E_slices_IndexFunc_Simpl_Terrain_impl_Terrain__impl_terrainIndex_1_ok k).1, tcons_nat (s_impl_terrainIndex k) (E_slices_IndexFunc_Simpl_Terrain_impl_Terrain__impl_terrainIndex_1_ok k).2⟩
/-- impl.goodKind -/
def cx_impl_goodKind : Cx := { N := 26, G := glob, C := tys, ad := fun d => false, wk := false }
def F_impl_goodKind (k : Nat) : FArg (.c (.val (.st (.pair .str (.pair (.int .i64) (.pair (.int .i64) (.pair (.int .i64) (.pair .bool (.int .i64)))))))) .e) := fun x K => impl_goodKind k x.1 (fun (r0 : Bool) => K [⟨.bool, r0, true⟩])
theorem s_impl_goodKind (k : Nat) : SoundF Tryd.prog glob 106 (ftab (.c (.val (.st (.pair .str (.pair (.int .i64) (.pair (.int .i64) (.pair (.int .i64) (.pair .bool (.int .i64)))))))) .e) (F_impl_goodKind k)) :=
  fun_ok (cx := cx_impl_goodKind) (by kernel_rfl) ⟨types, (E_impl_terrainIndex_ok k).1, (E_impl_terrainIndex_ok k).2, mixed, rfl⟩ Tryd.func106 rfl (LoopsOK.nil) [] (by kernel_rfl) (fun x K => by kernel_rfl)
def E_impl_goodKind (k : Nat) : Tbl := tcons 106 (ftab (.c (.val (.st (.pair .str (.pair (.int .i64) (.pair (.int .i64) (.pair (.int .i64) (.pair .bool (.int .i64)))))))) .e) (F_impl_goodKind k)) (E_impl_terrainIndex k)
theorem E_impl_goodKind_ok (k : Nat) : SoundE Tryd.prog glob (E_impl_goodKind k) ∧ NatE (E_impl_goodKind k) := ⟨tcons_sound (s_impl_goodKind k) (E_impl_terrainIndex_ok k).1, tcons_nat (s_impl_goodKind k) (E_impl_terrainIndex_ok k).2⟩
/-- impl.kindIndex$1 -/
def cx_impl_kindIndex_1 : Cx := { N := 8, G := glob, C := tys, ad := fun d => false, wk := false }
def F_impl_kindIndex_1 (k : Nat) : FArg (.c (.val (.st (.pair .str (.pair (.int .i64) (.pair (.int .i64) (.pair (.int .i64) (.pair .bool (.int .i64)))))))) (.c (.pval .str) .e)) := fun x K => impl_kindIndex_1 x.1 x.2.1 (fun (r0 : Bool) => K [⟨.bool, r0, true⟩])
theorem s_impl_kindIndex_1 (k : Nat) : SoundF Tryd.prog glob 148 (ftab (.c (.val (.st (.pair .str (.pair (.int .i64) (.pair (.int .i64) (.pair (.int .i64) (.pair .bool (.int .i64)))))))) (.c (.pval .str) .e)) (F_impl_kindIndex_1 k)) :=
  fun_ok (cx := cx_impl_kindIndex_1) (by kernel_rfl) ⟨types, (E_impl_goodKind_ok k).1, (E_impl_goodKind_ok k).2, mixed, rfl⟩ Tryd.func148 rfl (LoopsOK.nil) [] (by kernel_rfl) (fun x K => by kernel_rfl)
def E_impl_kindIndex_1 (k : Nat) : Tbl := tcons 148 (ftab (.c (.val (.st (.pair .str (.pair (.int .i64) (.pair (.int .i64) (.pair (.int .i64) (.pair .bool (.int .i64)))))))) (.c (.pval .str) .e)) (F_impl_kindIndex_1 k)) (E_impl_goodKind k)
theorem E_impl_kindIndex_1_ok (k : Nat) : SoundE Tryd.prog glob (E_impl_kindIndex_1 k) ∧ NatE (E_impl_kindIndex_1 k) := ⟨tcons_sound (s_impl_kindIndex_1 k) (E_impl_goodKind_ok k).1, tcons_nat (s_impl_kindIndex_1 k) (E_impl_goodKind_ok k).2⟩
/-- slices.IndexFunc[[]impl.Kind,impl.Kind] -/
def cx_slices_IndexFunc_Simpl_Kind_impl_Kind__impl_kindIndex_1 : Cx := { N := 19, G := glob, C := tys, ad := fun d => false, wk := false }
def sp_slices_IndexFunc_Simpl_Kind_impl_Kind__impl_kindIndex_1_l0 : LSp where
  cv := []
  ts := [(0, .val (.sl (.st (.pair .str (.pair (.int .i64) (.pair (.int .i64) (.pair (.int .i64) (.pair .bool (.int .i64))))))))), (1, .fn 148 (.c (.pval .str) .e)), (7, .val (.int .i64)), (8, .val (.int .i64))]
  ids := []
  tx := fun e => match e with | .exit i => bif Nat.beq i 0 then [] else [] | .ret => [4] | .normal => []
  ix := fun e => match e with | .exit i => bif Nat.beq i 0 then [] else [] | .ret => [] | .normal => []
def F_slices_IndexFunc_Simpl_Kind_impl_Kind__impl_kindIndex_1_l0 (k : Nat) : LArg sp_slices_IndexFunc_Simpl_Kind_impl_Kind__impl_kindIndex_1_l0 := fun K n x y => slices_IndexFunc_Simpl_Kind_impl_Kind__impl_kindIndex_1_l0 k (K (.exit 0) (mkSt [] [])) (fun (y0 : Int) => K (.ret) (mkSt [(4, .val (.int .i64) y0)] [])) n x.1 x.2.1.1 x.2.2.1 x.2.2.2.1
def LO_slices_IndexFunc_Simpl_Kind_impl_Kind__impl_kindIndex_1_l0 (k : Nat) : LTbl := (lcons 2 (ltab sp_slices_IndexFunc_Simpl_Kind_impl_Kind__impl_kindIndex_1_l0 (F_slices_IndexFunc_Simpl_Kind_impl_Kind__impl_kindIndex_1_l0 k) k) lnil)
theorem lk_slices_IndexFunc_Simpl_Kind_impl_Kind__impl_kindIndex_1_l0 (k : Nat) : LoopsOK Tryd.prog glob (E_impl_kindIndex_1 k) cx_slices_IndexFunc_Simpl_Kind_impl_Kind__impl_kindIndex_1 (LO_slices_IndexFunc_Simpl_Kind_impl_Kind__impl_kindIndex_1_l0 k) ((2, (loopB Tryd.f147 2)) :: []) :=
  LoopsOK.cons (LoopsOK.nil) (E_impl_kindIndex_1_ok k).2 (F := F_slices_IndexFunc_Simpl_Kind_impl_Kind__impl_kindIndex_1_l0 k) k [] (by kernel_rfl) (by kernel_rfl) (fun K x y => rfl) (fun n x y K => by kernel_rfl)
def F_slices_IndexFunc_Simpl_Kind_impl_Kind__impl_kindIndex_1 (k : Nat) : FArg (.c (.val (.sl (.st (.pair .str (.pair (.int .i64) (.pair (.int .i64) (.pair (.int .i64) (.pair .bool (.int .i64))))))))) (.c (.fn 148 (.c (.pval .str) .e)) .e)) := fun x K => slices_IndexFunc_Simpl_Kind_impl_Kind__impl_kindIndex_1 k x.1 x.2.1.1 (fun (r0 : Int) => K [⟨(.int .i64), r0, true⟩])
theorem s_slices_IndexFunc_Simpl_Kind_impl_Kind__impl_kindIndex_1 (k : Nat) : SoundF Tryd.prog glob 147 (ftab (.c (.val (.sl (.st (.pair .str (.pair (.int .i64) (.pair (.int .i64) (.pair (.int .i64) (.pair .bool (.int .i64))))))))) (.c (.fn 148 (.c (.pval .str) .e)) .e)) (F_slices_IndexFunc_Simpl_Kind_impl_Kind__impl_kindIndex_1 k)) :=
  fun_ok (cx := cx_slices_IndexFunc_Simpl_Kind_impl_Kind__impl_kindIndex_1) (by kernel_rfl) ⟨types, (E_impl_kindIndex_1_ok k).1, (E_impl_kindIndex_1_ok k).2, mixed, rfl⟩ Tryd.func147 rfl (lk_slices_IndexFunc_Simpl_Kind_impl_Kind__impl_kindIndex_1_l0 k) [0] (by kernel_rfl) (fun x K => by kernel_rfl)
def E_slices_IndexFunc_Simpl_Kind_impl_Kind__impl_kindIndex_1 (k : Nat) : Tbl := tcons 147 (ftab (.c (.val (.sl (.st (.pair .str (.pair (.int .i64) (.pair (.int .i64) (.pair (.int .i64) (.pair .bool (.int .i64))))))))) (.c (.fn 148 (.c (.pval .str) .e)) .e)) (F_slices_IndexFunc_Simpl_Kind_impl_Kind__impl_kindIndex_1 k)) (E_impl_kindIndex_1 k)
theorem E_slices_IndexFunc_Simpl_Kind_impl_Kind__impl_kindIndex_1_ok (k : Nat) : SoundE Tryd.prog glob (E_slices_IndexFunc_Simpl_Kind_impl_Kind__impl_kindIndex_1 k) ∧ NatE (E_slices_IndexFunc_Simpl_Kind_impl_Kind__impl_kindIndex_1 k) := ⟨tcons_sound (s_slices_IndexFunc_Simpl_Kind_impl_Kind__impl_kindIndex_1 k) (E_impl_kindIndex_1_ok k).1, tcons_nat (s_slices_IndexFunc_Simpl_Kind_impl_Kind__impl_kindIndex_1 k) (E_impl_kindIndex_1_ok k).2⟩
/-- impl.kindIndex -/
def cx_impl_kindIndex : Cx := { N := 8, G := glob, C := tys, ad := fun d => false, wk := false }
def F_impl_kindIndex (k : Nat) : FArg (.c (.val (.sl (.st (.pair .str (.pair (.int .i64) (.pair (.int .i64) (.pair (.int .i64) (.pair .bool (.int .i64))))))))) (.c (.val .str) .e)) := fun x K => impl_kindIndex k x.1 x.2.1 (fun (r0 : Int) => K [⟨(.int .i64), r0, true⟩])
theorem s_impl_kindIndex (k : Nat) : SoundF Tryd.prog glob 107 (ftab (.c (.val (.sl (.st (.pair .str (.pair (.int .i64) (.pair (.int .i64) (.pair (.int .i64) (.pair .bool (.int .i64))))))))) (.c (.val .str) .e)) (F_impl_kindIndex k)) :=
  fun_ok (cx := cx_impl_kindIndex) (by kernel_rfl) ⟨types, (E_slices_IndexFunc_Simpl_Kind_impl_Kind__impl_kindIndex_1_ok k).1, (E_slices_IndexFunc_Simpl_Kind_impl_Kind__impl_kindIndex_1_ok k).2, mixed, rfl⟩ Tryd.func107 rfl (LoopsOK.nil) [] (by kernel_rfl) (fun x K => by kernel_rfl)
def E_impl_kindIndex (k : Nat) : Tbl := tcons 107 (ftab (.c (.val (.sl (.st (.pair .str (.pair (.int .i64) (.pair (.int .i64) (.pair (.int .i64) (.pair .bool (.int .i64))))))))) (.c (.val .str) .e)) (F_impl_kindIndex k)) (E_slices_IndexFunc_Simpl_Kind_impl_Kind__impl_kindIndex_1 k)
theorem E_impl_kindIndex_ok (k : Nat) : SoundE Tryd.prog glob (E_impl_kindIndex k) ∧ NatE (E_impl_kindIndex k) := ⟨tcons_sound (s_impl_kindIndex k) (E_slices_IndexFunc_Simpl_Kind_impl_Kind__impl_kindIndex_1_ok k).1, tcons_nat (s_impl_kindIndex k) (E_slices_IndexFunc_Simpl_Kind_impl_Kind__impl_kindIndex_1_ok k).2⟩
/-- impl.IsRules -/
def cx_impl_IsRules : Cx := { N := 87, G := glob, C := tys, ad := fun d => false, wk := false }
def sp_impl_IsRules_l0 : LSp where
  cv := []
  ts := [(1, .ptr 1), (20, .val (.sl (.st (.pair .str (.pair (.sl (.int .i64)) (.pair (.int .i64) (.pair (.int .i64) .bool))))))), (21, .val (.int .i64)), (22, .val (.int .i64))]
  ids := [(1, .box (.st (.pair (.sl (.st (.pair .str (.pair (.sl (.int .i64)) (.pair (.int .i64) (.pair (.int .i64) .bool)))))) (.pair (.sl (.st (.pair .str (.pair (.int .i64) (.pair (.int .i64) (.pair (.int .i64) (.pair .bool (.int .i64)))))))) (.pair (.int .i64) (.pair (.int .i64) (.pair (.int .i64) (.pair (.int .i64) (.int .i64)))))))) (.val (.st (.pair (.sl (.st (.pair .str (.pair (.sl (.int .i64)) (.pair (.int .i64) (.pair (.int .i64) .bool)))))) (.pair (.sl (.st (.pair .str (.pair (.int .i64) (.pair (.int .i64) (.pair (.int .i64) (.pair .bool (.int .i64)))))))) (.pair (.int .i64) (.pair (.int .i64) (.pair (.int .i64) (.pair (.int .i64) (.int .i64))))))))))]
  tx := fun e => match e with | .exit i => bif Nat.beq i 0 then [1] else [] | .ret => [2] | .normal => []
  ix := fun e => match e with | .exit i => bif Nat.beq i 0 then [1] else [] | .ret => [] | .normal => []
def F_impl_IsRules_l0 (k : Nat) : LArg sp_impl_IsRules_l0 := fun K n x y => impl_IsRules_l0 k (fun (y0 : (List (ByteArray × (List Int) × Int × Int × Bool)) × (List (ByteArray × Int × Int × Int × Bool × Int)) × Int × Int × Int × Int × Int) => K (.exit 0) (mkSt [(1, .ptr 1 1 [])] [(1, some (.box (.st (.pair (.sl (.st (.pair .str (.pair (.sl (.int .i64)) (.pair (.int .i64) (.pair (.int .i64) .bool)))))) (.pair (.sl (.st (.pair .str (.pair (.int .i64) (.pair (.int .i64) (.pair (.int .i64) (.pair .bool (.int .i64)))))))) (.pair (.int .i64) (.pair (.int .i64) (.pair (.int .i64) (.pair (.int .i64) (.int .i64)))))))) (.val (.st (.pair (.sl (.st (.pair .str (.pair (.sl (.int .i64)) (.pair (.int .i64) (.pair (.int .i64) .bool)))))) (.pair (.sl (.st (.pair .str (.pair (.int .i64) (.pair (.int .i64) (.pair (.int .i64) (.pair .bool (.int .i64)))))))) (.pair (.int .i64) (.pair (.int .i64) (.pair (.int .i64) (.pair (.int .i64) (.int .i64)))))))) y0)))])) (fun (y0 : Bool) => K (.ret) (mkSt [(2, .val .bool y0)] [])) n x.2.1 x.2.2.1 x.2.2.2.1 y.1
def LO_impl_IsRules_l0 (k : Nat) : LTbl := (lcons 4 (ltab sp_impl_IsRules_l0 (F_impl_IsRules_l0 k) k) lnil)
theorem lk_impl_IsRules_l0 (k : Nat) : LoopsOK Tryd.prog glob (E_impl_kindIndex k) cx_impl_IsRules (LO_impl_IsRules_l0 k) ((4, (loopB Tryd.f55 4)) :: []) :=
  LoopsOK.cons (LoopsOK.nil) (E_impl_kindIndex_ok k).2 (F := F_impl_IsRules_l0 k) k [] (by kernel_rfl) (by kernel_rfl) (fun K x y => rfl) (fun n x y K => by kernel_rfl)
def sp_impl_IsRules_l1 : LSp where
  cv := []
  ts := [(1, .ptr 1), (44, .val (.sl (.st (.pair .str (.pair (.int .i64) (.pair (.int .i64) (.pair (.int .i64) (.pair .bool (.int .i64))))))))), (45, .val (.int .i64)), (46, .val (.int .i64))]
  ids := [(1, .box (.st (.pair (.sl (.st (.pair .str (.pair (.sl (.int .i64)) (.pair (.int .i64) (.pair (.int .i64) .bool)))))) (.pair (.sl (.st (.pair .str (.pair (.int .i64) (.pair (.int .i64) (.pair (.int .i64) (.pair .bool (.int .i64)))))))) (.pair (.int .i64) (.pair (.int .i64) (.pair (.int .i64) (.pair (.int .i64) (.int .i64)))))))) (.val (.st (.pair (.sl (.st (.pair .str (.pair (.sl (.int .i64)) (.pair (.int .i64) (.pair (.int .i64) .bool)))))) (.pair (.sl (.st (.pair .str (.pair (.int .i64) (.pair (.int .i64) (.pair (.int .i64) (.pair .bool (.int .i64)))))))) (.pair (.int .i64) (.pair (.int .i64) (.pair (.int .i64) (.pair (.int .i64) (.int .i64))))))))))]
  tx := fun e => match e with | .exit i => bif Nat.beq i 2 then [1] else [] | .ret => [2] | .normal => []
  ix := fun e => match e with | .exit i => bif Nat.beq i 2 then [1] else [] | .ret => [] | .normal => []
def F_impl_IsRules_l1 (k : Nat) : LArg sp_impl_IsRules_l1 := fun K n x y => impl_IsRules_l1 k (fun (y0 : (List (ByteArray × (List Int) × Int × Int × Bool)) × (List (ByteArray × Int × Int × Int × Bool × Int)) × Int × Int × Int × Int × Int) => K (.exit 2) (mkSt [(1, .ptr 1 1 [])] [(1, some (.box (.st (.pair (.sl (.st (.pair .str (.pair (.sl (.int .i64)) (.pair (.int .i64) (.pair (.int .i64) .bool)))))) (.pair (.sl (.st (.pair .str (.pair (.int .i64) (.pair (.int .i64) (.pair (.int .i64) (.pair .bool (.int .i64)))))))) (.pair (.int .i64) (.pair (.int .i64) (.pair (.int .i64) (.pair (.int .i64) (.int .i64)))))))) (.val (.st (.pair (.sl (.st (.pair .str (.pair (.sl (.int .i64)) (.pair (.int .i64) (.pair (.int .i64) .bool)))))) (.pair (.sl (.st (.pair .str (.pair (.int .i64) (.pair (.int .i64) (.pair (.int .i64) (.pair .bool (.int .i64)))))))) (.pair (.int .i64) (.pair (.int .i64) (.pair (.int .i64) (.pair (.int .i64) (.int .i64)))))))) y0)))])) (fun (y0 : Bool) => K (.ret) (mkSt [(2, .val .bool y0)] [])) n x.2.1 x.2.2.1 x.2.2.2.1 y.1
def LO_impl_IsRules_l1 (k : Nat) : LTbl := (lcons 10 (ltab sp_impl_IsRules_l1 (F_impl_IsRules_l1 k) k) (LO_impl_IsRules_l0 k))
theorem lk_impl_IsRules_l1 (k : Nat) : LoopsOK Tryd.prog glob (E_impl_kindIndex k) cx_impl_IsRules (LO_impl_IsRules_l1 k) ((10, (loopB Tryd.f55 10)) :: ((4, (loopB Tryd.f55 4)) :: [])) :=
  LoopsOK.cons (lk_impl_IsRules_l0 k) (E_impl_kindIndex_ok k).2 (F := F_impl_IsRules_l1 k) k [] (by kernel_rfl) (by kernel_rfl) (fun K x y => rfl) (fun n x y K => by kernel_rfl)
def F_impl_IsRules (k : Nat) : FArg (.c (.val (.st (.pair (.sl (.st (.pair .str (.pair (.sl (.int .i64)) (.pair (.int .i64) (.pair (.int .i64) .bool)))))) (.pair (.sl (.st (.pair .str (.pair (.int .i64) (.pair (.int .i64) (.pair (.int .i64) (.pair .bool (.int .i64)))))))) (.pair (.int .i64) (.pair (.int .i64) (.pair (.int .i64) (.pair (.int .i64) (.int .i64))))))))) .e) := fun x K => impl_IsRules k x.1 (fun (r0 : Bool) => K [⟨.bool, r0, true⟩])
theorem s_impl_IsRules (k : Nat) : SoundF Tryd.prog glob 55 (ftab (.c (.val (.st (.pair (.sl (.st (.pair .str (.pair (.sl (.int .i64)) (.pair (.int .i64) (.pair (.int .i64) .bool)))))) (.pair (.sl (.st (.pair .str (.pair (.int .i64) (.pair (.int .i64) (.pair (.int .i64) (.pair .bool (.int .i64)))))))) (.pair (.int .i64) (.pair (.int .i64) (.pair (.int .i64) (.pair (.int .i64) (.int .i64))))))))) .e) (F_impl_IsRules k)) :=
  fun_ok (cx := cx_impl_IsRules) (by kernel_rfl) ⟨types, (E_impl_kindIndex_ok k).1, (E_impl_kindIndex_ok k).2, mixed, rfl⟩ Tryd.func55 rfl (lk_impl_IsRules_l1 k) [1, 0] (by kernel_rfl) (fun x K => by kernel_rfl)
def E_impl_IsRules (k : Nat) : Tbl := tcons 55 (ftab (.c (.val (.st (.pair (.sl (.st (.pair .str (.pair (.sl (.int .i64)) (.pair (.int .i64) (.pair (.int .i64) .bool)))))) (.pair (.sl (.st (.pair .str (.pair (.int .i64) (.pair (.int .i64) (.pair (.int .i64) (.pair .bool (.int .i64)))))))) (.pair (.int .i64) (.pair (.int .i64) (.pair (.int .i64) (.pair (.int .i64) (.int .i64))))))))) .e) (F_impl_IsRules k)) (E_impl_kindIndex k)
theorem E_impl_IsRules_ok (k : Nat) : SoundE Tryd.prog glob (E_impl_IsRules k) ∧ NatE (E_impl_IsRules k) := ⟨tcons_sound (s_impl_IsRules k) (E_impl_kindIndex_ok k).1, tcons_nat (s_impl_IsRules k) (E_impl_kindIndex_ok k).2⟩
/-- strconv.Itoa -/
def F_strconv_Itoa (k : Nat) : FArg (.c (.val (.int .i64)) .e) := fun x K => strconv_Itoa x.1 fun r => K [⟨.str, r, true⟩]
theorem s_strconv_Itoa (k : Nat) : SoundF Tryd.prog glob 155 (ftab (.c (.val (.int .i64)) .e) (F_strconv_Itoa k)) := itoa_sound (g := 3) (by kernel_rfl) (by kernel_rfl) rfl (fun n h0 h1 w ht => Tryd.strconv_Itoa n h0 h1 w ht)
def E_strconv_Itoa (k : Nat) : Tbl := tcons 155 (ftab (.c (.val (.int .i64)) .e) (F_strconv_Itoa k)) (E_impl_IsRules k)
theorem E_strconv_Itoa_ok (k : Nat) : SoundE Tryd.prog glob (E_strconv_Itoa k) ∧ NatE (E_strconv_Itoa k) := ⟨tcons_sound (s_strconv_Itoa k) (E_impl_IsRules_ok k).1, tcons_nat (s_strconv_Itoa k) (E_impl_IsRules_ok k).2⟩
/-- strings.Join -/
def F_strings_Join (k : Nat) : FArg (.c (.val (.sl .str)) (.c (.val .str) .e)) := fun x K => strings_Join x.1 x.2.1 fun r => K [⟨.str, r, true⟩]
theorem s_strings_Join (k : Nat) : SoundF Tryd.prog glob 142 (ftab (.c (.val (.sl .str)) (.c (.val .str) .e)) (F_strings_Join k)) := join_sound (by kernel_rfl) (fun a c sep w => Tryd.strings_Join_none a c sep w) (fun bk o c xs sep w h1 h2 h3 h4 h5 => Tryd.strings_Join bk o c xs sep w h1 h2 h3 h4 h5)
def E_strings_Join (k : Nat) : Tbl := tcons 142 (ftab (.c (.val (.sl .str)) (.c (.val .str) .e)) (F_strings_Join k)) (E_strconv_Itoa k)
theorem E_strings_Join_ok (k : Nat) : SoundE Tryd.prog glob (E_strings_Join k) ∧ NatE (E_strings_Join k) := ⟨tcons_sound (s_strings_Join k) (E_strconv_Itoa_ok k).1, tcons_nat (s_strings_Join k) (E_strconv_Itoa_ok k).2⟩
/-- impl.wordsText -/
def cx_impl_wordsText : Cx := { N := 24, G := glob, C := tys, ad := fun d => false, wk := false }
def sp_impl_wordsText_l0 : LSp where
  cv := []
  ts := [(5, .own 9), (10, .val (.sl (.int .i64))), (11, .val (.int .i64)), (12, .val (.int .i64))]
  ids := [(9, .row .str)]
  tx := fun e => match e with | .exit i => bif Nat.beq i 0 then [5] else [] | .ret => [] | .normal => []
  ix := fun e => match e with | .exit i => bif Nat.beq i 0 then [9] else [] | .ret => [] | .normal => []
def F_impl_wordsText_l0 (k : Nat) : LArg sp_impl_wordsText_l0 := fun K n x y => impl_wordsText_l0 k (fun (y0 : List ByteArray) => K (.exit 0) (mkSt [(5, .own 9 1)] [(9, some (.row .str y0))])) n x.2.1 x.2.2.1 x.2.2.2.1 y.1
def LO_impl_wordsText_l0 (k : Nat) : LTbl := (lcons 3 (ltab sp_impl_wordsText_l0 (F_impl_wordsText_l0 k) k) lnil)
theorem lk_impl_wordsText_l0 (k : Nat) : LoopsOK Tryd.prog glob (E_strings_Join k) cx_impl_wordsText (LO_impl_wordsText_l0 k) ((3, (loopB Tryd.f139 3)) :: []) :=
  LoopsOK.cons (LoopsOK.nil) (E_strings_Join_ok k).2 (F := F_impl_wordsText_l0 k) k [] (by kernel_rfl) (by kernel_rfl) (fun K x y => rfl) (fun n x y K => by kernel_rfl)
def F_impl_wordsText (k : Nat) : FArg (.c (.val .str) (.c (.val (.sl (.int .i64))) .e)) := fun x K => impl_wordsText k x.1 x.2.1 (fun (r0 : ByteArray) => K [⟨.str, r0, true⟩])
theorem s_impl_wordsText (k : Nat) : SoundF Tryd.prog glob 139 (ftab (.c (.val .str) (.c (.val (.sl (.int .i64))) .e)) (F_impl_wordsText k)) :=
  fun_ok (cx := cx_impl_wordsText) (by kernel_rfl) ⟨types, (E_strings_Join_ok k).1, (E_strings_Join_ok k).2, mixed, rfl⟩ Tryd.func139 rfl (lk_impl_wordsText_l0 k) [0] (by kernel_rfl) (fun x K => by kernel_rfl)
def E_impl_wordsText (k : Nat) : Tbl := tcons 139 (ftab (.c (.val .str) (.c (.val (.sl (.int .i64))) .e)) (F_impl_wordsText k)) (E_strings_Join k)
theorem E_impl_wordsText_ok (k : Nat) : SoundE Tryd.prog glob (E_impl_wordsText k) ∧ NatE (E_impl_wordsText k) := ⟨tcons_sound (s_impl_wordsText k) (E_strings_Join_ok k).1, tcons_nat (s_impl_wordsText k) (E_strings_Join_ok k).2⟩
/-- impl.kindLine -/
def cx_impl_kindLine : Cx := { N := 36, G := glob, C := tys, ad := fun d => false, wk := false }
def F_impl_kindLine (k : Nat) : FArg (.c (.val (.st (.pair .str (.pair (.int .i64) (.pair (.int .i64) (.pair (.int .i64) (.pair .bool (.int .i64)))))))) .e) := fun x K => impl_kindLine k x.1 (fun (r0 : ByteArray) => K [⟨.str, r0, true⟩])
theorem s_impl_kindLine (k : Nat) : SoundF Tryd.prog glob 140 (ftab (.c (.val (.st (.pair .str (.pair (.int .i64) (.pair (.int .i64) (.pair (.int .i64) (.pair .bool (.int .i64)))))))) .e) (F_impl_kindLine k)) :=
  fun_ok (cx := cx_impl_kindLine) (by kernel_rfl) ⟨types, (E_impl_wordsText_ok k).1, (E_impl_wordsText_ok k).2, mixed, rfl⟩ Tryd.func140 rfl (LoopsOK.nil) [] (by kernel_rfl) (fun x K => by kernel_rfl)
def E_impl_kindLine (k : Nat) : Tbl := tcons 140 (ftab (.c (.val (.st (.pair .str (.pair (.int .i64) (.pair (.int .i64) (.pair (.int .i64) (.pair .bool (.int .i64)))))))) .e) (F_impl_kindLine k)) (E_impl_wordsText k)
theorem E_impl_kindLine_ok (k : Nat) : SoundE Tryd.prog glob (E_impl_kindLine k) ∧ NatE (E_impl_kindLine k) := ⟨tcons_sound (s_impl_kindLine k) (E_impl_wordsText_ok k).1, tcons_nat (s_impl_kindLine k) (E_impl_wordsText_ok k).2⟩
/-- impl.terrainLine -/
def cx_impl_terrainLine : Cx := { N := 29, G := glob, C := tys, ad := fun d => false, wk := false }
def F_impl_terrainLine (k : Nat) : FArg (.c (.val (.st (.pair .str (.pair (.sl (.int .i64)) (.pair (.int .i64) (.pair (.int .i64) .bool)))))) .e) := fun x K => impl_terrainLine k x.1 (fun (r0 : ByteArray) => K [⟨.str, r0, true⟩])
theorem s_impl_terrainLine (k : Nat) : SoundF Tryd.prog glob 141 (ftab (.c (.val (.st (.pair .str (.pair (.sl (.int .i64)) (.pair (.int .i64) (.pair (.int .i64) .bool)))))) .e) (F_impl_terrainLine k)) :=
  fun_ok (cx := cx_impl_terrainLine) (by kernel_rfl) ⟨types, (E_impl_kindLine_ok k).1, (E_impl_kindLine_ok k).2, mixed, rfl⟩ Tryd.func141 rfl (LoopsOK.nil) [] (by kernel_rfl) (fun x K => by kernel_rfl)
def E_impl_terrainLine (k : Nat) : Tbl := tcons 141 (ftab (.c (.val (.st (.pair .str (.pair (.sl (.int .i64)) (.pair (.int .i64) (.pair (.int .i64) .bool)))))) .e) (F_impl_terrainLine k)) (E_impl_kindLine k)
theorem E_impl_terrainLine_ok (k : Nat) : SoundE Tryd.prog glob (E_impl_terrainLine k) ∧ NatE (E_impl_terrainLine k) := ⟨tcons_sound (s_impl_terrainLine k) (E_impl_kindLine_ok k).1, tcons_nat (s_impl_terrainLine k) (E_impl_kindLine_ok k).2⟩
/-- impl.rulesText -/
def cx_impl_rulesText : Cx := { N := 65, G := glob, C := tys, ad := fun d => false, wk := false }
def sp_impl_rulesText_l0 : LSp where
  cv := []
  ts := [(1, .ptr 1), (3, .own 10), (21, .val (.arr 5 (.int .i64))), (22, .val (.int .i64))]
  ids := [(1, .box (.st (.pair (.sl (.st (.pair .str (.pair (.sl (.int .i64)) (.pair (.int .i64) (.pair (.int .i64) .bool)))))) (.pair (.sl (.st (.pair .str (.pair (.int .i64) (.pair (.int .i64) (.pair (.int .i64) (.pair .bool (.int .i64)))))))) (.pair (.int .i64) (.pair (.int .i64) (.pair (.int .i64) (.pair (.int .i64) (.int .i64)))))))) (.val (.st (.pair (.sl (.st (.pair .str (.pair (.sl (.int .i64)) (.pair (.int .i64) (.pair (.int .i64) .bool)))))) (.pair (.sl (.st (.pair .str (.pair (.int .i64) (.pair (.int .i64) (.pair (.int .i64) (.pair .bool (.int .i64)))))))) (.pair (.int .i64) (.pair (.int .i64) (.pair (.int .i64) (.pair (.int .i64) (.int .i64)))))))))), (10, .row .str)]
  tx := fun e => match e with | .exit i => bif Nat.beq i 0 then [1, 3] else [] | .ret => [] | .normal => []
  ix := fun e => match e with | .exit i => bif Nat.beq i 0 then [1, 10] else [] | .ret => [] | .normal => []
def F_impl_rulesText_l0 (k : Nat) : LArg sp_impl_rulesText_l0 := fun K n x y => impl_rulesText_l0 k (fun (y0 : (List (ByteArray × (List Int) × Int × Int × Bool)) × (List (ByteArray × Int × Int × Int × Bool × Int)) × Int × Int × Int × Int × Int) (y1 : List ByteArray) => K (.exit 0) (mkSt [(1, .ptr 1 1 []), (3, .own 10 1)] [(1, some (.box (.st (.pair (.sl (.st (.pair .str (.pair (.sl (.int .i64)) (.pair (.int .i64) (.pair (.int .i64) .bool)))))) (.pair (.sl (.st (.pair .str (.pair (.int .i64) (.pair (.int .i64) (.pair (.int .i64) (.pair .bool (.int .i64)))))))) (.pair (.int .i64) (.pair (.int .i64) (.pair (.int .i64) (.pair (.int .i64) (.int .i64)))))))) (.val (.st (.pair (.sl (.st (.pair .str (.pair (.sl (.int .i64)) (.pair (.int .i64) (.pair (.int .i64) .bool)))))) (.pair (.sl (.st (.pair .str (.pair (.int .i64) (.pair (.int .i64) (.pair (.int .i64) (.pair .bool (.int .i64)))))))) (.pair (.int .i64) (.pair (.int .i64) (.pair (.int .i64) (.pair (.int .i64) (.int .i64)))))))) y0))), (10, some (.row .str y1))])) n x.2.2.1 x.2.2.2.1 y.1 y.2.1
def LO_impl_rulesText_l0 (k : Nat) : LTbl := (lcons 3 (ltab sp_impl_rulesText_l0 (F_impl_rulesText_l0 k) k) lnil)
theorem lk_impl_rulesText_l0 (k : Nat) : LoopsOK Tryd.prog glob (E_impl_terrainLine k) cx_impl_rulesText (LO_impl_rulesText_l0 k) ((3, (loopB Tryd.f101 3)) :: []) :=
  LoopsOK.cons (LoopsOK.nil) (E_impl_terrainLine_ok k).2 (F := F_impl_rulesText_l0 k) k [] (by kernel_rfl) (by kernel_rfl) (fun K x y => rfl) (fun n x y K => by kernel_rfl)
def sp_impl_rulesText_l1 : LSp where
  cv := []
  ts := [(1, .ptr 1), (3, .own 10), (37, .val (.sl (.st (.pair .str (.pair (.int .i64) (.pair (.int .i64) (.pair (.int .i64) (.pair .bool (.int .i64))))))))), (38, .val (.int .i64)), (39, .val (.int .i64))]
  ids := [(1, .box (.st (.pair (.sl (.st (.pair .str (.pair (.sl (.int .i64)) (.pair (.int .i64) (.pair (.int .i64) .bool)))))) (.pair (.sl (.st (.pair .str (.pair (.int .i64) (.pair (.int .i64) (.pair (.int .i64) (.pair .bool (.int .i64)))))))) (.pair (.int .i64) (.pair (.int .i64) (.pair (.int .i64) (.pair (.int .i64) (.int .i64)))))))) (.val (.st (.pair (.sl (.st (.pair .str (.pair (.sl (.int .i64)) (.pair (.int .i64) (.pair (.int .i64) .bool)))))) (.pair (.sl (.st (.pair .str (.pair (.int .i64) (.pair (.int .i64) (.pair (.int .i64) (.pair .bool (.int .i64)))))))) (.pair (.int .i64) (.pair (.int .i64) (.pair (.int .i64) (.pair (.int .i64) (.int .i64)))))))))), (10, .row .str)]
  tx := fun e => match e with | .exit i => bif Nat.beq i 2 then [1, 3] else [] | .ret => [] | .normal => []
  ix := fun e => match e with | .exit i => bif Nat.beq i 2 then [1, 10] else [] | .ret => [] | .normal => []
def F_impl_rulesText_l1 (k : Nat) : LArg sp_impl_rulesText_l1 := fun K n x y => impl_rulesText_l1 k (fun (y0 : (List (ByteArray × (List Int) × Int × Int × Bool)) × (List (ByteArray × Int × Int × Int × Bool × Int)) × Int × Int × Int × Int × Int) (y1 : List ByteArray) => K (.exit 2) (mkSt [(1, .ptr 1 1 []), (3, .own 10 1)] [(1, some (.box (.st (.pair (.sl (.st (.pair .str (.pair (.sl (.int .i64)) (.pair (.int .i64) (.pair (.int .i64) .bool)))))) (.pair (.sl (.st (.pair .str (.pair (.int .i64) (.pair (.int .i64) (.pair (.int .i64) (.pair .bool (.int .i64)))))))) (.pair (.int .i64) (.pair (.int .i64) (.pair (.int .i64) (.pair (.int .i64) (.int .i64)))))))) (.val (.st (.pair (.sl (.st (.pair .str (.pair (.sl (.int .i64)) (.pair (.int .i64) (.pair (.int .i64) .bool)))))) (.pair (.sl (.st (.pair .str (.pair (.int .i64) (.pair (.int .i64) (.pair (.int .i64) (.pair .bool (.int .i64)))))))) (.pair (.int .i64) (.pair (.int .i64) (.pair (.int .i64) (.pair (.int .i64) (.int .i64)))))))) y0))), (10, some (.row .str y1))])) n x.2.2.1 x.2.2.2.1 x.2.2.2.2.1 y.1 y.2.1
def LO_impl_rulesText_l1 (k : Nat) : LTbl := (lcons 8 (ltab sp_impl_rulesText_l1 (F_impl_rulesText_l1 k) k) (LO_impl_rulesText_l0 k))
theorem lk_impl_rulesText_l1 (k : Nat) : LoopsOK Tryd.prog glob (E_impl_terrainLine k) cx_impl_rulesText (LO_impl_rulesText_l1 k) ((8, (loopB Tryd.f101 8)) :: ((3, (loopB Tryd.f101 3)) :: [])) :=
  LoopsOK.cons (lk_impl_rulesText_l0 k) (E_impl_terrainLine_ok k).2 (F := F_impl_rulesText_l1 k) k [] (by kernel_rfl) (by kernel_rfl) (fun K x y => rfl) (fun n x y K => by kernel_rfl)
def sp_impl_rulesText_l2 : LSp where
  cv := []
  ts := [(3, .own 10), (50, .val (.sl (.st (.pair .str (.pair (.sl (.int .i64)) (.pair (.int .i64) (.pair (.int .i64) .bool))))))), (51, .val (.int .i64)), (52, .val (.int .i64))]
  ids := [(10, .row .str)]
  tx := fun e => match e with | .exit i => bif Nat.beq i 4 then [3] else [] | .ret => [] | .normal => []
  ix := fun e => match e with | .exit i => bif Nat.beq i 4 then [10] else [] | .ret => [] | .normal => []
def F_impl_rulesText_l2 (k : Nat) : LArg sp_impl_rulesText_l2 := fun K n x y => impl_rulesText_l2 k (fun (y0 : List ByteArray) => K (.exit 4) (mkSt [(3, .own 10 1)] [(10, some (.row .str y0))])) n x.2.1 x.2.2.1 x.2.2.2.1 y.1
def LO_impl_rulesText_l2 (k : Nat) : LTbl := (lcons 13 (ltab sp_impl_rulesText_l2 (F_impl_rulesText_l2 k) k) (LO_impl_rulesText_l1 k))
theorem lk_impl_rulesText_l2 (k : Nat) : LoopsOK Tryd.prog glob (E_impl_terrainLine k) cx_impl_rulesText (LO_impl_rulesText_l2 k) ((13, (loopB Tryd.f101 13)) :: ((8, (loopB Tryd.f101 8)) :: ((3, (loopB Tryd.f101 3)) :: []))) :=
  LoopsOK.cons (lk_impl_rulesText_l1 k) (E_impl_terrainLine_ok k).2 (F := F_impl_rulesText_l2 k) k [] (by kernel_rfl) (by kernel_rfl) (fun K x y => rfl) (fun n x y K => by kernel_rfl)
def F_impl_rulesText (k : Nat) : FArg (.c (.val (.st (.pair (.sl (.st (.pair .str (.pair (.sl (.int .i64)) (.pair (.int .i64) (.pair (.int .i64) .bool)))))) (.pair (.sl (.st (.pair .str (.pair (.int .i64) (.pair (.int .i64) (.pair (.int .i64) (.pair .bool (.int .i64)))))))) (.pair (.int .i64) (.pair (.int .i64) (.pair (.int .i64) (.pair (.int .i64) (.int .i64))))))))) .e) := fun x K => impl_rulesText k x.1 (fun (r0 : ByteArray) => K [⟨.str, r0, true⟩])
theorem s_impl_rulesText (k : Nat) : SoundF Tryd.prog glob 101 (ftab (.c (.val (.st (.pair (.sl (.st (.pair .str (.pair (.sl (.int .i64)) (.pair (.int .i64) (.pair (.int .i64) .bool)))))) (.pair (.sl (.st (.pair .str (.pair (.int .i64) (.pair (.int .i64) (.pair (.int .i64) (.pair .bool (.int .i64)))))))) (.pair (.int .i64) (.pair (.int .i64) (.pair (.int .i64) (.pair (.int .i64) (.int .i64))))))))) .e) (F_impl_rulesText k)) :=
  fun_ok (cx := cx_impl_rulesText) (by kernel_rfl) ⟨types, (E_impl_terrainLine_ok k).1, (E_impl_terrainLine_ok k).2, mixed, rfl⟩ Tryd.func101 rfl (lk_impl_rulesText_l2 k) [2, 1, 0] (by kernel_rfl) (fun x K => by kernel_rfl)
def E_impl_rulesText (k : Nat) : Tbl := tcons 101 (ftab (.c (.val (.st (.pair (.sl (.st (.pair .str (.pair (.sl (.int .i64)) (.pair (.int .i64) (.pair (.int .i64) .bool)))))) (.pair (.sl (.st (.pair .str (.pair (.int .i64) (.pair (.int .i64) (.pair (.int .i64) (.pair .bool (.int .i64)))))))) (.pair (.int .i64) (.pair (.int .i64) (.pair (.int .i64) (.pair (.int .i64) (.int .i64))))))))) .e) (F_impl_rulesText k)) (E_impl_terrainLine k)
theorem E_impl_rulesText_ok (k : Nat) : SoundE Tryd.prog glob (E_impl_rulesText k) ∧ NatE (E_impl_rulesText k) := ⟨tcons_sound (s_impl_rulesText k) (E_impl_terrainLine_ok k).1, tcons_nat (s_impl_rulesText k) (E_impl_terrainLine_ok k).2⟩
/-- impl.RulesText -/
def cx_impl_RulesText : Cx := { N := 9, G := glob, C := tys, ad := fun d => false, wk := false }
def F_impl_RulesText (k : Nat) : FArg (.c (.val (.st (.pair (.sl (.st (.pair .str (.pair (.sl (.int .i64)) (.pair (.int .i64) (.pair (.int .i64) .bool)))))) (.pair (.sl (.st (.pair .str (.pair (.int .i64) (.pair (.int .i64) (.pair (.int .i64) (.pair .bool (.int .i64)))))))) (.pair (.int .i64) (.pair (.int .i64) (.pair (.int .i64) (.pair (.int .i64) (.int .i64))))))))) .e) := fun x K => impl_RulesText k x.1 (fun (r0 : ByteArray) (r1 : Bool) => K [⟨.str, r0, true⟩, ⟨.bool, r1, true⟩])
theorem s_impl_RulesText (k : Nat) : SoundF Tryd.prog glob 53 (ftab (.c (.val (.st (.pair (.sl (.st (.pair .str (.pair (.sl (.int .i64)) (.pair (.int .i64) (.pair (.int .i64) .bool)))))) (.pair (.sl (.st (.pair .str (.pair (.int .i64) (.pair (.int .i64) (.pair (.int .i64) (.pair .bool (.int .i64)))))))) (.pair (.int .i64) (.pair (.int .i64) (.pair (.int .i64) (.pair (.int .i64) (.int .i64))))))))) .e) (F_impl_RulesText k)) :=
  fun_ok (cx := cx_impl_RulesText) (by kernel_rfl) ⟨types, (E_impl_rulesText_ok k).1, (E_impl_rulesText_ok k).2, mixed, rfl⟩ Tryd.func53 rfl (LoopsOK.nil) [] (by kernel_rfl) (fun x K => by kernel_rfl)
def E_impl_RulesText (k : Nat) : Tbl := tcons 53 (ftab (.c (.val (.st (.pair (.sl (.st (.pair .str (.pair (.sl (.int .i64)) (.pair (.int .i64) (.pair (.int .i64) .bool)))))) (.pair (.sl (.st (.pair .str (.pair (.int .i64) (.pair (.int .i64) (.pair (.int .i64) (.pair .bool (.int .i64)))))))) (.pair (.int .i64) (.pair (.int .i64) (.pair (.int .i64) (.pair (.int .i64) (.int .i64))))))))) .e) (F_impl_RulesText k)) (E_impl_rulesText k)
theorem E_impl_RulesText_ok (k : Nat) : SoundE Tryd.prog glob (E_impl_RulesText k) ∧ NatE (E_impl_RulesText k) := ⟨tcons_sound (s_impl_RulesText k) (E_impl_rulesText_ok k).1, tcons_nat (s_impl_RulesText k) (E_impl_rulesText_ok k).2⟩
/-- laws.eqIntS -/
def cx_laws_eqIntS : Cx := { N := 26, G := glob, C := tys, ad := fun d => false, wk := false }
def sp_laws_eqIntS_l0 : LSp where
  cv := []
  ts := [(0, .val (.sl (.int .i64))), (1, .val (.sl (.int .i64))), (5, .val (.int .i64))]
  ids := []
  tx := fun e => match e with | .exit i => bif Nat.beq i 0 then [] else [] | .ret => [4] | .normal => []
  ix := fun e => match e with | .exit i => bif Nat.beq i 0 then [] else [] | .ret => [] | .normal => []
def F_laws_eqIntS_l0 (k : Nat) : LArg sp_laws_eqIntS_l0 := fun K n x y => laws_eqIntS_l0 k (K (.exit 0) (mkSt [] [])) (fun (y0 : Bool) => K (.ret) (mkSt [(4, .val .bool y0)] [])) n x.1 x.2.1 x.2.2.1
def LO_laws_eqIntS_l0 (k : Nat) : LTbl := (lcons 4 (ltab sp_laws_eqIntS_l0 (F_laws_eqIntS_l0 k) k) lnil)
theorem lk_laws_eqIntS_l0 (k : Nat) : LoopsOK Tryd.prog glob (E_impl_RulesText k) cx_laws_eqIntS (LO_laws_eqIntS_l0 k) ((4, (loopB Tryd.f27 4)) :: []) :=
  LoopsOK.cons (LoopsOK.nil) (E_impl_RulesText_ok k).2 (F := F_laws_eqIntS_l0 k) k [] (by kernel_rfl) (by kernel_rfl) (fun K x y => rfl) (fun n x y K => by kernel_rfl)
def F_laws_eqIntS (k : Nat) : FArg (.c (.val (.sl (.int .i64))) (.c (.val (.sl (.int .i64))) .e)) := fun x K => laws_eqIntS k x.1 x.2.1 (fun (r0 : Bool) => K [⟨.bool, r0, true⟩])
theorem s_laws_eqIntS (k : Nat) : SoundF Tryd.prog glob 27 (ftab (.c (.val (.sl (.int .i64))) (.c (.val (.sl (.int .i64))) .e)) (F_laws_eqIntS k)) :=
  fun_ok (cx := cx_laws_eqIntS) (by kernel_rfl) ⟨types, (E_impl_RulesText_ok k).1, (E_impl_RulesText_ok k).2, mixed, rfl⟩ Tryd.func27 rfl (lk_laws_eqIntS_l0 k) [0] (by kernel_rfl) (fun x K => by kernel_rfl)
def E_laws_eqIntS (k : Nat) : Tbl := tcons 27 (ftab (.c (.val (.sl (.int .i64))) (.c (.val (.sl (.int .i64))) .e)) (F_laws_eqIntS k)) (E_impl_RulesText k)
theorem E_laws_eqIntS_ok (k : Nat) : SoundE Tryd.prog glob (E_laws_eqIntS k) ∧ NatE (E_laws_eqIntS k) := ⟨tcons_sound (s_laws_eqIntS k) (E_impl_RulesText_ok k).1, tcons_nat (s_laws_eqIntS k) (E_impl_RulesText_ok k).2⟩
/-- laws.eqTerrain -/
def cx_laws_eqTerrain : Cx := { N := 31, G := glob, C := tys, ad := fun d => false, wk := false }
def F_laws_eqTerrain (k : Nat) : FArg (.c (.val (.st (.pair .str (.pair (.sl (.int .i64)) (.pair (.int .i64) (.pair (.int .i64) .bool)))))) (.c (.val (.st (.pair .str (.pair (.sl (.int .i64)) (.pair (.int .i64) (.pair (.int .i64) .bool)))))) .e)) := fun x K => laws_eqTerrain k x.1 x.2.1 (fun (r0 : Bool) => K [⟨.bool, r0, true⟩])
theorem s_laws_eqTerrain (k : Nat) : SoundF Tryd.prog glob 123 (ftab (.c (.val (.st (.pair .str (.pair (.sl (.int .i64)) (.pair (.int .i64) (.pair (.int .i64) .bool)))))) (.c (.val (.st (.pair .str (.pair (.sl (.int .i64)) (.pair (.int .i64) (.pair (.int .i64) .bool)))))) .e)) (F_laws_eqTerrain k)) :=
  fun_ok (cx := cx_laws_eqTerrain) (by kernel_rfl) ⟨types, (E_laws_eqIntS_ok k).1, (E_laws_eqIntS_ok k).2, mixed, rfl⟩ Tryd.func123 rfl (LoopsOK.nil) [] (by kernel_rfl) (fun x K => by kernel_rfl)
def E_laws_eqTerrain (k : Nat) : Tbl := tcons 123 (ftab (.c (.val (.st (.pair .str (.pair (.sl (.int .i64)) (.pair (.int .i64) (.pair (.int .i64) .bool)))))) (.c (.val (.st (.pair .str (.pair (.sl (.int .i64)) (.pair (.int .i64) (.pair (.int .i64) .bool)))))) .e)) (F_laws_eqTerrain k)) (E_laws_eqIntS k)
theorem E_laws_eqTerrain_ok (k : Nat) : SoundE Tryd.prog glob (E_laws_eqTerrain k) ∧ NatE (E_laws_eqTerrain k) := ⟨tcons_sound (s_laws_eqTerrain k) (E_laws_eqIntS_ok k).1, tcons_nat (s_laws_eqTerrain k) (E_laws_eqIntS_ok k).2⟩
/-- laws.eqTerrainS -/
def cx_laws_eqTerrainS : Cx := { N := 27, G := glob, C := tys, ad := fun d => false, wk := false }
def sp_laws_eqTerrainS_l0 : LSp where
  cv := []
  ts := [(0, .val (.sl (.st (.pair .str (.pair (.sl (.int .i64)) (.pair (.int .i64) (.pair (.int .i64) .bool))))))), (1, .val (.sl (.st (.pair .str (.pair (.sl (.int .i64)) (.pair (.int .i64) (.pair (.int .i64) .bool))))))), (5, .val (.int .i64))]
  ids := []
  tx := fun e => match e with | .exit i => bif Nat.beq i 0 then [] else [] | .ret => [4] | .normal => []
  ix := fun e => match e with | .exit i => bif Nat.beq i 0 then [] else [] | .ret => [] | .normal => []
def F_laws_eqTerrainS_l0 (k : Nat) : LArg sp_laws_eqTerrainS_l0 := fun K n x y => laws_eqTerrainS_l0 k (K (.exit 0) (mkSt [] [])) (fun (y0 : Bool) => K (.ret) (mkSt [(4, .val .bool y0)] [])) n x.1 x.2.1 x.2.2.1
def LO_laws_eqTerrainS_l0 (k : Nat) : LTbl := (lcons 4 (ltab sp_laws_eqTerrainS_l0 (F_laws_eqTerrainS_l0 k) k) lnil)
theorem lk_laws_eqTerrainS_l0 (k : Nat) : LoopsOK Tryd.prog glob (E_laws_eqTerrain k) cx_laws_eqTerrainS (LO_laws_eqTerrainS_l0 k) ((4, (loopB Tryd.f75 4)) :: []) :=
  LoopsOK.cons (LoopsOK.nil) (E_laws_eqTerrain_ok k).2 (F := F_laws_eqTerrainS_l0 k) k [] (by kernel_rfl) (by kernel_rfl) (fun K x y => rfl) (fun n x y K => by kernel_rfl)
def F_laws_eqTerrainS (k : Nat) : FArg (.c (.val (.sl (.st (.pair .str (.pair (.sl (.int .i64)) (.pair (.int .i64) (.pair (.int .i64) .bool))))))) (.c (.val (.sl (.st (.pair .str (.pair (.sl (.int .i64)) (.pair (.int .i64) (.pair (.int .i64) .bool))))))) .e)) := fun x K => laws_eqTerrainS k x.1 x.2.1 (fun (r0 : Bool) => K [⟨.bool, r0, true⟩])
theorem s_laws_eqTerrainS (k : Nat) : SoundF Tryd.prog glob 75 (ftab (.c (.val (.sl (.st (.pair .str (.pair (.sl (.int .i64)) (.pair (.int .i64) (.pair (.int .i64) .bool))))))) (.c (.val (.sl (.st (.pair .str (.pair (.sl (.int .i64)) (.pair (.int .i64) (.pair (.int .i64) .bool))))))) .e)) (F_laws_eqTerrainS k)) :=
  fun_ok (cx := cx_laws_eqTerrainS) (by kernel_rfl) ⟨types, (E_laws_eqTerrain_ok k).1, (E_laws_eqTerrain_ok k).2, mixed, rfl⟩ Tryd.func75 rfl (lk_laws_eqTerrainS_l0 k) [0] (by kernel_rfl) (fun x K => by kernel_rfl)
def E_laws_eqTerrainS (k : Nat) : Tbl := tcons 75 (ftab (.c (.val (.sl (.st (.pair .str (.pair (.sl (.int .i64)) (.pair (.int .i64) (.pair (.int .i64) .bool))))))) (.c (.val (.sl (.st (.pair .str (.pair (.sl (.int .i64)) (.pair (.int .i64) (.pair (.int .i64) .bool))))))) .e)) (F_laws_eqTerrainS k)) (E_laws_eqTerrain k)
theorem E_laws_eqTerrainS_ok (k : Nat) : SoundE Tryd.prog glob (E_laws_eqTerrainS k) ∧ NatE (E_laws_eqTerrainS k) := ⟨tcons_sound (s_laws_eqTerrainS k) (E_laws_eqTerrain_ok k).1, tcons_nat (s_laws_eqTerrainS k) (E_laws_eqTerrain_ok k).2⟩
/-- laws.eqKind -/
def cx_laws_eqKind : Cx := { N := 35, G := glob, C := tys, ad := fun d => false, wk := false }
def F_laws_eqKind (k : Nat) : FArg (.c (.val (.st (.pair .str (.pair (.int .i64) (.pair (.int .i64) (.pair (.int .i64) (.pair .bool (.int .i64)))))))) (.c (.val (.st (.pair .str (.pair (.int .i64) (.pair (.int .i64) (.pair (.int .i64) (.pair .bool (.int .i64)))))))) .e)) := fun x K => laws_eqKind x.1 x.2.1 (fun (r0 : Bool) => K [⟨.bool, r0, true⟩])
theorem s_laws_eqKind (k : Nat) : SoundF Tryd.prog glob 124 (ftab (.c (.val (.st (.pair .str (.pair (.int .i64) (.pair (.int .i64) (.pair (.int .i64) (.pair .bool (.int .i64)))))))) (.c (.val (.st (.pair .str (.pair (.int .i64) (.pair (.int .i64) (.pair (.int .i64) (.pair .bool (.int .i64)))))))) .e)) (F_laws_eqKind k)) :=
  fun_ok (cx := cx_laws_eqKind) (by kernel_rfl) ⟨types, (E_laws_eqTerrainS_ok k).1, (E_laws_eqTerrainS_ok k).2, mixed, rfl⟩ Tryd.func124 rfl (LoopsOK.nil) [] (by kernel_rfl) (fun x K => by kernel_rfl)
def E_laws_eqKind (k : Nat) : Tbl := tcons 124 (ftab (.c (.val (.st (.pair .str (.pair (.int .i64) (.pair (.int .i64) (.pair (.int .i64) (.pair .bool (.int .i64)))))))) (.c (.val (.st (.pair .str (.pair (.int .i64) (.pair (.int .i64) (.pair (.int .i64) (.pair .bool (.int .i64)))))))) .e)) (F_laws_eqKind k)) (E_laws_eqTerrainS k)
theorem E_laws_eqKind_ok (k : Nat) : SoundE Tryd.prog glob (E_laws_eqKind k) ∧ NatE (E_laws_eqKind k) := ⟨tcons_sound (s_laws_eqKind k) (E_laws_eqTerrainS_ok k).1, tcons_nat (s_laws_eqKind k) (E_laws_eqTerrainS_ok k).2⟩
/-- laws.eqKindS -/
def cx_laws_eqKindS : Cx := { N := 27, G := glob, C := tys, ad := fun d => false, wk := false }
def sp_laws_eqKindS_l0 : LSp where
  cv := []
  ts := [(0, .val (.sl (.st (.pair .str (.pair (.int .i64) (.pair (.int .i64) (.pair (.int .i64) (.pair .bool (.int .i64))))))))), (1, .val (.sl (.st (.pair .str (.pair (.int .i64) (.pair (.int .i64) (.pair (.int .i64) (.pair .bool (.int .i64))))))))), (5, .val (.int .i64))]
  ids := []
  tx := fun e => match e with | .exit i => bif Nat.beq i 0 then [] else [] | .ret => [4] | .normal => []
  ix := fun e => match e with | .exit i => bif Nat.beq i 0 then [] else [] | .ret => [] | .normal => []
def F_laws_eqKindS_l0 (k : Nat) : LArg sp_laws_eqKindS_l0 := fun K n x y => laws_eqKindS_l0 k (K (.exit 0) (mkSt [] [])) (fun (y0 : Bool) => K (.ret) (mkSt [(4, .val .bool y0)] [])) n x.1 x.2.1 x.2.2.1
def LO_laws_eqKindS_l0 (k : Nat) : LTbl := (lcons 4 (ltab sp_laws_eqKindS_l0 (F_laws_eqKindS_l0 k) k) lnil)
theorem lk_laws_eqKindS_l0 (k : Nat) : LoopsOK Tryd.prog glob (E_laws_eqKind k) cx_laws_eqKindS (LO_laws_eqKindS_l0 k) ((4, (loopB Tryd.f76 4)) :: []) :=
  LoopsOK.cons (LoopsOK.nil) (E_laws_eqKind_ok k).2 (F := F_laws_eqKindS_l0 k) k [] (by kernel_rfl) (by kernel_rfl) (fun K x y => rfl) (fun n x y K => by kernel_rfl)
def F_laws_eqKindS (k : Nat) : FArg (.c (.val (.sl (.st (.pair .str (.pair (.int .i64) (.pair (.int .i64) (.pair (.int .i64) (.pair .bool (.int .i64))))))))) (.c (.val (.sl (.st (.pair .str (.pair (.int .i64) (.pair (.int .i64) (.pair (.int .i64) (.pair .bool (.int .i64))))))))) .e)) := fun x K => laws_eqKindS k x.1 x.2.1 (fun (r0 : Bool) => K [⟨.bool, r0, true⟩])
theorem s_laws_eqKindS (k : Nat) : SoundF Tryd.prog glob 76 (ftab (.c (.val (.sl (.st (.pair .str (.pair (.int .i64) (.pair (.int .i64) (.pair (.int .i64) (.pair .bool (.int .i64))))))))) (.c (.val (.sl (.st (.pair .str (.pair (.int .i64) (.pair (.int .i64) (.pair (.int .i64) (.pair .bool (.int .i64))))))))) .e)) (F_laws_eqKindS k)) :=
  fun_ok (cx := cx_laws_eqKindS) (by kernel_rfl) ⟨types, (E_laws_eqKind_ok k).1, (E_laws_eqKind_ok k).2, mixed, rfl⟩ Tryd.func76 rfl (lk_laws_eqKindS_l0 k) [0] (by kernel_rfl) (fun x K => by kernel_rfl)
def E_laws_eqKindS (k : Nat) : Tbl := tcons 76 (ftab (.c (.val (.sl (.st (.pair .str (.pair (.int .i64) (.pair (.int .i64) (.pair (.int .i64) (.pair .bool (.int .i64))))))))) (.c (.val (.sl (.st (.pair .str (.pair (.int .i64) (.pair (.int .i64) (.pair (.int .i64) (.pair .bool (.int .i64))))))))) .e)) (F_laws_eqKindS k)) (E_laws_eqKind k)
theorem E_laws_eqKindS_ok (k : Nat) : SoundE Tryd.prog glob (E_laws_eqKindS k) ∧ NatE (E_laws_eqKindS k) := ⟨tcons_sound (s_laws_eqKindS k) (E_laws_eqKind_ok k).1, tcons_nat (s_laws_eqKindS k) (E_laws_eqKind_ok k).2⟩
/-- laws.eqRules -/
def cx_laws_eqRules : Cx := { N := 42, G := glob, C := tys, ad := fun d => false, wk := false }
def F_laws_eqRules (k : Nat) : FArg (.c (.val (.st (.pair (.sl (.st (.pair .str (.pair (.sl (.int .i64)) (.pair (.int .i64) (.pair (.int .i64) .bool)))))) (.pair (.sl (.st (.pair .str (.pair (.int .i64) (.pair (.int .i64) (.pair (.int .i64) (.pair .bool (.int .i64)))))))) (.pair (.int .i64) (.pair (.int .i64) (.pair (.int .i64) (.pair (.int .i64) (.int .i64))))))))) (.c (.val (.st (.pair (.sl (.st (.pair .str (.pair (.sl (.int .i64)) (.pair (.int .i64) (.pair (.int .i64) .bool)))))) (.pair (.sl (.st (.pair .str (.pair (.int .i64) (.pair (.int .i64) (.pair (.int .i64) (.pair .bool (.int .i64)))))))) (.pair (.int .i64) (.pair (.int .i64) (.pair (.int .i64) (.pair (.int .i64) (.int .i64))))))))) .e)) := fun x K => laws_eqRules k x.1 x.2.1 (fun (r0 : Bool) => K [⟨.bool, r0, true⟩])
theorem s_laws_eqRules (k : Nat) : SoundF Tryd.prog glob 28 (ftab (.c (.val (.st (.pair (.sl (.st (.pair .str (.pair (.sl (.int .i64)) (.pair (.int .i64) (.pair (.int .i64) .bool)))))) (.pair (.sl (.st (.pair .str (.pair (.int .i64) (.pair (.int .i64) (.pair (.int .i64) (.pair .bool (.int .i64)))))))) (.pair (.int .i64) (.pair (.int .i64) (.pair (.int .i64) (.pair (.int .i64) (.int .i64))))))))) (.c (.val (.st (.pair (.sl (.st (.pair .str (.pair (.sl (.int .i64)) (.pair (.int .i64) (.pair (.int .i64) .bool)))))) (.pair (.sl (.st (.pair .str (.pair (.int .i64) (.pair (.int .i64) (.pair (.int .i64) (.pair .bool (.int .i64)))))))) (.pair (.int .i64) (.pair (.int .i64) (.pair (.int .i64) (.pair (.int .i64) (.int .i64))))))))) .e)) (F_laws_eqRules k)) :=
  fun_ok (cx := cx_laws_eqRules) (by kernel_rfl) ⟨types, (E_laws_eqKindS_ok k).1, (E_laws_eqKindS_ok k).2, mixed, rfl⟩ Tryd.func28 rfl (LoopsOK.nil) [] (by kernel_rfl) (fun x K => by kernel_rfl)
def E_laws_eqRules (k : Nat) : Tbl := tcons 28 (ftab (.c (.val (.st (.pair (.sl (.st (.pair .str (.pair (.sl (.int .i64)) (.pair (.int .i64) (.pair (.int .i64) .bool)))))) (.pair (.sl (.st (.pair .str (.pair (.int .i64) (.pair (.int .i64) (.pair (.int .i64) (.pair .bool (.int .i64)))))))) (.pair (.int .i64) (.pair (.int .i64) (.pair (.int .i64) (.pair (.int .i64) (.int .i64))))))))) (.c (.val (.st (.pair (.sl (.st (.pair .str (.pair (.sl (.int .i64)) (.pair (.int .i64) (.pair (.int .i64) .bool)))))) (.pair (.sl (.st (.pair .str (.pair (.int .i64) (.pair (.int .i64) (.pair (.int .i64) (.pair .bool (.int .i64)))))))) (.pair (.int .i64) (.pair (.int .i64) (.pair (.int .i64) (.pair (.int .i64) (.int .i64))))))))) .e)) (F_laws_eqRules k)) (E_laws_eqKindS k)
theorem E_laws_eqRules_ok (k : Nat) : SoundE Tryd.prog glob (E_laws_eqRules k) ∧ NatE (E_laws_eqRules k) := ⟨tcons_sound (s_laws_eqRules k) (E_laws_eqKindS_ok k).1, tcons_nat (s_laws_eqRules k) (E_laws_eqKindS_ok k).2⟩
/-- laws.FnExactRulesText -/
def cx_laws_FnExactRulesText : Cx := { N := 40, G := glob, C := tys, ad := fun d => false, wk := false }
def F_laws_FnExactRulesText (k : Nat) : FArg (.c (.val (.st (.pair (.sl (.st (.pair .str (.pair (.sl (.int .i64)) (.pair (.int .i64) (.pair (.int .i64) .bool)))))) (.pair (.sl (.st (.pair .str (.pair (.int .i64) (.pair (.int .i64) (.pair (.int .i64) (.pair .bool (.int .i64)))))))) (.pair (.int .i64) (.pair (.int .i64) (.pair (.int .i64) (.pair (.int .i64) (.int .i64))))))))) .e) := fun x K => laws_FnExactRulesText k x.1 (fun (r0 : Bool) => K [⟨.bool, r0, true⟩])
theorem q_laws_FnExactRulesText (k : Nat) (c0 : ((List (ByteArray × (List Int) × Int × Int × Bool)) × (List (ByteArray × Int × Int × Int × Bool × Int)) × Int × Int × Int × Int × Int) → Int → ∀ {R : Type}, (Int → Option R) → Option R) (c1 : ((List (ByteArray × (List Int) × Int × Int × Bool)) × (List (ByteArray × Int × Int × Int × Bool × Int)) × Int × Int × Int × Int × Int) → ∀ {R : Type}, (((List (ByteArray × (List Int) × Int × Int × Bool)) × (List (ByteArray × Int × Int × Int × Bool × Int)) × Int × Int × Int × Int × Int) → Option R) → Option R) (c2 : ((List (ByteArray × (List Int) × Int × Int × Bool)) × (List (ByteArray × Int × Int × Int × Bool × Int)) × Int × Int × Int × Int × Int) → ∀ {R : Type}, (ByteArray → Bool → Option R) → Option R) (c3 : ((List (ByteArray × (List Int) × Int × Int × Bool)) × (List (ByteArray × Int × Int × Int × Bool × Int)) × Int × Int × Int × Int × Int) → ∀ {R : Type}, (ByteArray → Bool → Option R) → Option R) (c4 : ((List (ByteArray × (List Int) × Int × Int × Bool)) × (List (ByteArray × Int × Int × Int × Bool × Int)) × Int × Int × Int × Int × Int) → ((List (ByteArray × (List Int) × Int × Int × Bool)) × (List (ByteArray × Int × Int × Int × Bool × Int)) × Int × Int × Int × Int × Int) → ∀ {R : Type}, (Bool → Option R) → Option R) {R : Type} (x : ((.c (.val (.st (.pair (.sl (.st (.pair .str (.pair (.sl (.int .i64)) (.pair (.int .i64) (.pair (.int .i64) .bool)))))) (.pair (.sl (.st (.pair .str (.pair (.int .i64) (.pair (.int .i64) (.pair (.int .i64) (.pair .bool (.int .i64)))))))) (.pair (.int .i64) (.pair (.int .i64) (.pair (.int .i64) (.pair (.int .i64) (.int .i64))))))))) .e) : Sh).den) (K : List Res → Option R) : (fun (aR : (List (ByteArray × (List Int) × Int × Int × Bool)) × (List (ByteArray × Int × Int × Int × Bool × Int)) × Int × Int × Int × Int × Int) (K : Bool → Option R) =>
    c0 aR (1048576 : Int) fun (r : Int) =>
    bif decide (r < (0 : Int)) then
      K true
    else
      c1 aR fun (r0 : (List (ByteArray × (List Int) × Int × Int × Bool)) × (List (ByteArray × Int × Int × Int × Bool × Int)) × Int × Int × Int × Int × Int) =>
      c2 r0 fun (r1 : ByteArray) (r2 : Bool) =>
      c1 aR fun (r3 : (List (ByteArray × (List Int) × Int × Int × Bool)) × (List (ByteArray × Int × Int × Int × Bool × Int)) × Int × Int × Int × Int × Int) =>
      c3 r3 fun (r4 : ByteArray) (r5 : Bool) =>
      bif !(ByteArray.toList r4 == ByteArray.toList r1) then
        K false
      else
        bif !(r5 == r2) then
          K false
        else
          c1 aR fun (r6 : (List (ByteArray × (List Int) × Int × Int × Bool)) × (List (ByteArray × Int × Int × Int × Bool × Int)) × Int × Int × Int × Int × Int) =>
          c4 r3 r6 fun (r7 : Bool) =>
          bif !r7 then
            K false
          else
            K true) x.1 (fun (r0 : Bool) => K [⟨.bool, r0, true⟩]) = evFun ((tcons 21 (ftab (.c (.val (.st (.pair (.sl (.st (.pair .str (.pair (.sl (.int .i64)) (.pair (.int .i64) (.pair (.int .i64) .bool)))))) (.pair (.sl (.st (.pair .str (.pair (.int .i64) (.pair (.int .i64) (.pair (.int .i64) (.pair .bool (.int .i64)))))))) (.pair (.int .i64) (.pair (.int .i64) (.pair (.int .i64) (.pair (.int .i64) (.int .i64))))))))) (.c (.val (.int .i64)) .e)) fun x K => c0 x.1 x.2.1 (fun (r0 : Int) => K [⟨(.int .i64), r0, true⟩])) (tcons 24 (ftab (.c (.val (.st (.pair (.sl (.st (.pair .str (.pair (.sl (.int .i64)) (.pair (.int .i64) (.pair (.int .i64) .bool)))))) (.pair (.sl (.st (.pair .str (.pair (.int .i64) (.pair (.int .i64) (.pair (.int .i64) (.pair .bool (.int .i64)))))))) (.pair (.int .i64) (.pair (.int .i64) (.pair (.int .i64) (.pair (.int .i64) (.int .i64))))))))) .e) fun x K => c1 x.1 (fun (r0 : (List (ByteArray × (List Int) × Int × Int × Bool)) × (List (ByteArray × Int × Int × Int × Bool × Int)) × Int × Int × Int × Int × Int) => K [⟨(.st (.pair (.sl (.st (.pair .str (.pair (.sl (.int .i64)) (.pair (.int .i64) (.pair (.int .i64) .bool)))))) (.pair (.sl (.st (.pair .str (.pair (.int .i64) (.pair (.int .i64) (.pair (.int .i64) (.pair .bool (.int .i64)))))))) (.pair (.int .i64) (.pair (.int .i64) (.pair (.int .i64) (.pair (.int .i64) (.int .i64)))))))), r0, false⟩])) (tcons 52 (ftab (.c (.val (.st (.pair (.sl (.st (.pair .str (.pair (.sl (.int .i64)) (.pair (.int .i64) (.pair (.int .i64) .bool)))))) (.pair (.sl (.st (.pair .str (.pair (.int .i64) (.pair (.int .i64) (.pair (.int .i64) (.pair .bool (.int .i64)))))))) (.pair (.int .i64) (.pair (.int .i64) (.pair (.int .i64) (.pair (.int .i64) (.int .i64))))))))) .e) fun x K => c2 x.1 (fun (r0 : ByteArray) (r1 : Bool) => K [⟨.str, r0, true⟩, ⟨.bool, r1, true⟩])) (tcons 53 (ftab (.c (.val (.st (.pair (.sl (.st (.pair .str (.pair (.sl (.int .i64)) (.pair (.int .i64) (.pair (.int .i64) .bool)))))) (.pair (.sl (.st (.pair .str (.pair (.int .i64) (.pair (.int .i64) (.pair (.int .i64) (.pair .bool (.int .i64)))))))) (.pair (.int .i64) (.pair (.int .i64) (.pair (.int .i64) (.pair (.int .i64) (.int .i64))))))))) .e) fun x K => c3 x.1 (fun (r0 : ByteArray) (r1 : Bool) => K [⟨.str, r0, true⟩, ⟨.bool, r1, true⟩])) (tcons 28 (ftab (.c (.val (.st (.pair (.sl (.st (.pair .str (.pair (.sl (.int .i64)) (.pair (.int .i64) (.pair (.int .i64) .bool)))))) (.pair (.sl (.st (.pair .str (.pair (.int .i64) (.pair (.int .i64) (.pair (.int .i64) (.pair .bool (.int .i64)))))))) (.pair (.int .i64) (.pair (.int .i64) (.pair (.int .i64) (.pair (.int .i64) (.int .i64))))))))) (.c (.val (.st (.pair (.sl (.st (.pair .str (.pair (.sl (.int .i64)) (.pair (.int .i64) (.pair (.int .i64) .bool)))))) (.pair (.sl (.st (.pair .str (.pair (.int .i64) (.pair (.int .i64) (.pair (.int .i64) (.pair .bool (.int .i64)))))))) (.pair (.int .i64) (.pair (.int .i64) (.pair (.int .i64) (.pair (.int .i64) (.int .i64))))))))) .e)) fun x K => c4 x.1 x.2.1 (fun (r0 : Bool) => K [⟨.bool, r0, true⟩])) tnil)))))) lnil cx_laws_FnExactRulesText Tryd.f13 (give (.c (.val (.st (.pair (.sl (.st (.pair .str (.pair (.sl (.int .i64)) (.pair (.int .i64) (.pair (.int .i64) .bool)))))) (.pair (.sl (.st (.pair .str (.pair (.int .i64) (.pair (.int .i64) (.pair (.int .i64) (.pair .bool (.int .i64)))))))) (.pair (.int .i64) (.pair (.int .i64) (.pair (.int .i64) (.pair (.int .i64) (.int .i64))))))))) .e) x) K := by kernel_rfl
theorem e_laws_FnExactRulesText (k : Nat) : SoundE Tryd.prog glob (tcons 21 (ftab (.c (.val (.st (.pair (.sl (.st (.pair .str (.pair (.sl (.int .i64)) (.pair (.int .i64) (.pair (.int .i64) .bool)))))) (.pair (.sl (.st (.pair .str (.pair (.int .i64) (.pair (.int .i64) (.pair (.int .i64) (.pair .bool (.int .i64)))))))) (.pair (.int .i64) (.pair (.int .i64) (.pair (.int .i64) (.pair (.int .i64) (.int .i64))))))))) (.c (.val (.int .i64)) .e)) (F_laws_szRules k)) (tcons 24 (ftab (.c (.val (.st (.pair (.sl (.st (.pair .str (.pair (.sl (.int .i64)) (.pair (.int .i64) (.pair (.int .i64) .bool)))))) (.pair (.sl (.st (.pair .str (.pair (.int .i64) (.pair (.int .i64) (.pair (.int .i64) (.pair .bool (.int .i64)))))))) (.pair (.int .i64) (.pair (.int .i64) (.pair (.int .i64) (.pair (.int .i64) (.int .i64))))))))) .e) (F_laws_toRules k)) (tcons 52 (ftab (.c (.val (.st (.pair (.sl (.st (.pair .str (.pair (.sl (.int .i64)) (.pair (.int .i64) (.pair (.int .i64) .bool)))))) (.pair (.sl (.st (.pair .str (.pair (.int .i64) (.pair (.int .i64) (.pair (.int .i64) (.pair .bool (.int .i64)))))))) (.pair (.int .i64) (.pair (.int .i64) (.pair (.int .i64) (.pair (.int .i64) (.int .i64))))))))) .e) (F_spec_RulesText k)) (tcons 53 (ftab (.c (.val (.st (.pair (.sl (.st (.pair .str (.pair (.sl (.int .i64)) (.pair (.int .i64) (.pair (.int .i64) .bool)))))) (.pair (.sl (.st (.pair .str (.pair (.int .i64) (.pair (.int .i64) (.pair (.int .i64) (.pair .bool (.int .i64)))))))) (.pair (.int .i64) (.pair (.int .i64) (.pair (.int .i64) (.pair (.int .i64) (.int .i64))))))))) .e) (F_impl_RulesText k)) (tcons 28 (ftab (.c (.val (.st (.pair (.sl (.st (.pair .str (.pair (.sl (.int .i64)) (.pair (.int .i64) (.pair (.int .i64) .bool)))))) (.pair (.sl (.st (.pair .str (.pair (.int .i64) (.pair (.int .i64) (.pair (.int .i64) (.pair .bool (.int .i64)))))))) (.pair (.int .i64) (.pair (.int .i64) (.pair (.int .i64) (.pair (.int .i64) (.int .i64))))))))) (.c (.val (.st (.pair (.sl (.st (.pair .str (.pair (.sl (.int .i64)) (.pair (.int .i64) (.pair (.int .i64) .bool)))))) (.pair (.sl (.st (.pair .str (.pair (.int .i64) (.pair (.int .i64) (.pair (.int .i64) (.pair .bool (.int .i64)))))))) (.pair (.int .i64) (.pair (.int .i64) (.pair (.int .i64) (.pair (.int .i64) (.int .i64))))))))) .e)) (F_laws_eqRules k)) tnil))))) ∧ NatE (tcons 21 (ftab (.c (.val (.st (.pair (.sl (.st (.pair .str (.pair (.sl (.int .i64)) (.pair (.int .i64) (.pair (.int .i64) .bool)))))) (.pair (.sl (.st (.pair .str (.pair (.int .i64) (.pair (.int .i64) (.pair (.int .i64) (.pair .bool (.int .i64)))))))) (.pair (.int .i64) (.pair (.int .i64) (.pair (.int .i64) (.pair (.int .i64) (.int .i64))))))))) (.c (.val (.int .i64)) .e)) (F_laws_szRules k)) (tcons 24 (ftab (.c (.val (.st (.pair (.sl (.st (.pair .str (.pair (.sl (.int .i64)) (.pair (.int .i64) (.pair (.int .i64) .bool)))))) (.pair (.sl (.st (.pair .str (.pair (.int .i64) (.pair (.int .i64) (.pair (.int .i64) (.pair .bool (.int .i64)))))))) (.pair (.int .i64) (.pair (.int .i64) (.pair (.int .i64) (.pair (.int .i64) (.int .i64))))))))) .e) (F_laws_toRules k)) (tcons 52 (ftab (.c (.val (.st (.pair (.sl (.st (.pair .str (.pair (.sl (.int .i64)) (.pair (.int .i64) (.pair (.int .i64) .bool)))))) (.pair (.sl (.st (.pair .str (.pair (.int .i64) (.pair (.int .i64) (.pair (.int .i64) (.pair .bool (.int .i64)))))))) (.pair (.int .i64) (.pair (.int .i64) (.pair (.int .i64) (.pair (.int .i64) (.int .i64))))))))) .e) (F_spec_RulesText k)) (tcons 53 (ftab (.c (.val (.st (.pair (.sl (.st (.pair .str (.pair (.sl (.int .i64)) (.pair (.int .i64) (.pair (.int .i64) .bool)))))) (.pair (.sl (.st (.pair .str (.pair (.int .i64) (.pair (.int .i64) (.pair (.int .i64) (.pair .bool (.int .i64)))))))) (.pair (.int .i64) (.pair (.int .i64) (.pair (.int .i64) (.pair (.int .i64) (.int .i64))))))))) .e) (F_impl_RulesText k)) (tcons 28 (ftab (.c (.val (.st (.pair (.sl (.st (.pair .str (.pair (.sl (.int .i64)) (.pair (.int .i64) (.pair (.int .i64) .bool)))))) (.pair (.sl (.st (.pair .str (.pair (.int .i64) (.pair (.int .i64) (.pair (.int .i64) (.pair .bool (.int .i64)))))))) (.pair (.int .i64) (.pair (.int .i64) (.pair (.int .i64) (.pair (.int .i64) (.int .i64))))))))) (.c (.val (.st (.pair (.sl (.st (.pair .str (.pair (.sl (.int .i64)) (.pair (.int .i64) (.pair (.int .i64) .bool)))))) (.pair (.sl (.st (.pair .str (.pair (.int .i64) (.pair (.int .i64) (.pair (.int .i64) (.pair .bool (.int .i64)))))))) (.pair (.int .i64) (.pair (.int .i64) (.pair (.int .i64) (.pair (.int .i64) (.int .i64))))))))) .e)) (F_laws_eqRules k)) tnil))))) := (tab_cons (s_laws_szRules k) (tab_cons (s_laws_toRules k) (tab_cons (s_spec_RulesText k) (tab_cons (s_impl_RulesText k) (tab_cons (s_laws_eqRules k) e0)))))
theorem s_laws_FnExactRulesText (k : Nat) : SoundF Tryd.prog glob 13 (ftab (.c (.val (.st (.pair (.sl (.st (.pair .str (.pair (.sl (.int .i64)) (.pair (.int .i64) (.pair (.int .i64) .bool)))))) (.pair (.sl (.st (.pair .str (.pair (.int .i64) (.pair (.int .i64) (.pair (.int .i64) (.pair .bool (.int .i64)))))))) (.pair (.int .i64) (.pair (.int .i64) (.pair (.int .i64) (.pair (.int .i64) (.int .i64))))))))) .e) (F_laws_FnExactRulesText k)) :=
  fun_ok (cx := cx_laws_FnExactRulesText) (by kernel_rfl) ⟨types, (e_laws_FnExactRulesText k).1, (e_laws_FnExactRulesText k).2, mixed, rfl⟩ Tryd.func13 rfl (LoopsOK.nil) [] (by kernel_rfl) (fun x K => q_laws_FnExactRulesText k (fun a0 a1 {_} K => laws_szRules k a0 a1 K) (fun a0 {_} K => laws_toRules k a0 K) (fun a0 {_} K => spec_RulesText k a0 K) (fun a0 {_} K => impl_RulesText k a0 K) (fun a0 a1 {_} K => laws_eqRules k a0 a1 K) x K)
def E_laws_FnExactRulesText (k : Nat) : Tbl := tcons 13 (ftab (.c (.val (.st (.pair (.sl (.st (.pair .str (.pair (.sl (.int .i64)) (.pair (.int .i64) (.pair (.int .i64) .bool)))))) (.pair (.sl (.st (.pair .str (.pair (.int .i64) (.pair (.int .i64) (.pair (.int .i64) (.pair .bool (.int .i64)))))))) (.pair (.int .i64) (.pair (.int .i64) (.pair (.int .i64) (.pair (.int .i64) (.int .i64))))))))) .e) (F_laws_FnExactRulesText k)) (E_laws_eqRules k)
theorem E_laws_FnExactRulesText_ok (k : Nat) : SoundE Tryd.prog glob (E_laws_FnExactRulesText k) ∧ NatE (E_laws_FnExactRulesText k) := ⟨tcons_sound (s_laws_FnExactRulesText k) (E_laws_eqRules_ok k).1, tcons_nat (s_laws_FnExactRulesText k) (E_laws_eqRules_ok k).2⟩
end Go.Proofs.YtbfbeaghmlkjkaaDoor.TieRulesText
