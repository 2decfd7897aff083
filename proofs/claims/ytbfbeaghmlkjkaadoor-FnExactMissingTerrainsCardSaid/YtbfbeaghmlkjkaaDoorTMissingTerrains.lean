import Derived.Test.YtbfbeaghmlkjkaaDoorEv3
import Derived.Test.YtbfbeaghmlkjkaaDoorLg1
import Derived.KernelRfl
import Derived.Eval
import Derived.Test.YtbfbeaghmlkjkaaDoorProg
import Derived.Test.YtbfbeaghmlkjkaaDoorChecked
set_option linter.unusedVariables false
set_option linter.unusedSimpArgs false
set_option linter.unusedSectionVars false
set_option linter.unusedVariables false
set_option maxRecDepth 100000
namespace Go.Proofs.YtbfbeaghmlkjkaaDoor.TieMissingTerrains
open Go Go.Ev Go.Lg Go.Proofs
def tys : Nat → Option Ty := lookT [(3, (.int .i64)), (4, .bool), (5, (.int .u8)), (9, .str), (22, (.sl (.st (.pair .str (.pair (.sl (.int .i64)) (.pair (.int .i64) (.pair (.int .i64) .bool))))))), (23, (.sl (.st (.pair .str (.pair (.int .i64) (.pair (.int .i64) (.pair (.int .i64) (.pair .bool (.int .i64))))))))), (25, (.st (.pair (.sl (.st (.pair .str (.pair (.sl (.int .i64)) (.pair (.int .i64) (.pair (.int .i64) .bool)))))) (.pair (.sl (.st (.pair .str (.pair (.int .i64) (.pair (.int .i64) (.pair (.int .i64) (.pair .bool (.int .i64)))))))) (.pair (.int .i64) (.pair (.int .i64) (.pair (.int .i64) (.pair (.int .i64) (.int .i64))))))))), (26, (.sl (.int .i64))), (28, (.st (.pair (.int .i64) (.pair (.int .i64) (.pair (.sl (.int .i64)) (.pair (.sl (.int .i64)) (.sl (.int .i64)))))))), (33, (.sl (.st (.pair .str (.pair (.sl (.int .i64)) (.pair (.int .i64) (.pair (.int .i64) .bool))))))), (34, (.sl (.st (.pair .str (.pair (.int .i64) (.pair (.int .i64) (.pair (.int .i64) (.pair .bool (.int .i64))))))))), (36, (.st (.pair (.sl (.st (.pair .str (.pair (.sl (.int .i64)) (.pair (.int .i64) (.pair (.int .i64) .bool)))))) (.pair (.sl (.st (.pair .str (.pair (.int .i64) (.pair (.int .i64) (.pair (.int .i64) (.pair .bool (.int .i64)))))))) (.pair (.int .i64) (.pair (.int .i64) (.pair (.int .i64) (.pair (.int .i64) (.int .i64))))))))), (37, (.st (.pair (.int .i64) (.pair (.int .i64) (.pair (.sl (.int .i64)) (.pair (.sl (.int .i64)) (.sl (.int .i64)))))))), (121, (.st (.pair .str (.pair (.sl (.int .i64)) (.pair (.int .i64) (.pair (.int .i64) .bool)))))), (125, (.st (.pair .str (.pair (.int .i64) (.pair (.int .i64) (.pair (.int .i64) (.pair .bool (.int .i64)))))))), (128, (.sl (.sl (.int .i64)))), (135, (.st (.pair .str (.pair (.sl (.int .i64)) (.pair (.int .i64) (.pair (.int .i64) .bool)))))), (137, (.st (.pair .str (.pair (.int .i64) (.pair (.int .i64) (.pair (.int .i64) (.pair .bool (.int .i64)))))))), (165, (.sl (.int .u8))), (168, (.st (.pair (.int .i64) (.int .i64)))), (171, (.arr 6 (.st (.pair (.int .i64) (.int .i64)))))]
def glob : Nat → AV := fun g => bif Nat.beq g 1 then .pval (.arr 6 (.st (.pair (.int .i64) (.int .i64)))) impl_directions else .bot
theorem types : Types Tryd.prog tys := types_of (by kernel_rfl)
theorem mixed : Tryd.prog.follows .mixedOrders = true := Checked.mixed Tryd.checked
theorem e0 : SoundE Tryd.prog glob tnil ∧ NatE tnil := ⟨tnil_sound, tnil_nat⟩
theorem tab_cons {n : Nat} {t : FFun} {E : Tbl} (h : SoundF Tryd.prog glob n t) (h2 : SoundE Tryd.prog glob E ∧ NatE E) : SoundE Tryd.prog glob (tcons n t E) ∧ NatE (tcons n t E) := ⟨tcons_sound h h2.1, tcons_nat h h2.2⟩
theorem tab_consI {n m : Nat} {t : FFun} {E : Tbl} (hm : m ≠ 0) (h : SoundI Tryd.prog glob n m t) (h2 : SoundE Tryd.prog glob E ∧ NatE E) : SoundE Tryd.prog glob (tcons (n + 1000000 * m) t E) ∧ NatE (tcons (n + 1000000 * m) t E) := ⟨tconsI_sound hm h h2.1, tconsI_nat h h2.2⟩
/-- laws.szIntS -/
def cx_laws_szIntS : Cx := { N := 12, G := glob, C := tys, ad := fun d => false, wk := false }
def F_laws_szIntS (k : Nat) : FArg (.c (.val (.sl (.int .i64))) (.c (.val (.int .i64)) .e)) := fun x K => laws_szIntS x.1 x.2.1 (fun (r0 : Int) => K [⟨(.int .i64), r0, true⟩])
theorem s_laws_szIntS (k : Nat) : SoundF Tryd.prog glob 67 (ftab (.c (.val (.sl (.int .i64))) (.c (.val (.int .i64)) .e)) (F_laws_szIntS k)) :=
  fun_ok (cx := cx_laws_szIntS) (by kernel_rfl) ⟨types, (e0).1, (e0).2, mixed, rfl⟩ Tryd.func67 rfl (LoopsOK.nil) [] (by kernel_rfl) (fun x K => by kernel_rfl)
def E_laws_szIntS (k : Nat) : Tbl := tcons 67 (ftab (.c (.val (.sl (.int .i64))) (.c (.val (.int .i64)) .e)) (F_laws_szIntS k)) (tnil)
theorem E_laws_szIntS_ok (k : Nat) : SoundE Tryd.prog glob (E_laws_szIntS k) ∧ NatE (E_laws_szIntS k) := tab_cons (s_laws_szIntS k) (e0)
/-- laws.szTerrain -/
def cx_laws_szTerrain : Cx := { N := 19, G := glob, C := tys, ad := fun d => false, wk := false }
def F_laws_szTerrain (k : Nat) : FArg (.c (.val (.st (.pair .str (.pair (.sl (.int .i64)) (.pair (.int .i64) (.pair (.int .i64) .bool)))))) (.c (.val (.int .i64)) .e)) := fun x K => laws_szTerrain x.1 x.2.1 (fun (r0 : Int) => K [⟨(.int .i64), r0, true⟩])
theorem s_laws_szTerrain (k : Nat) : SoundF Tryd.prog glob 114 (ftab (.c (.val (.st (.pair .str (.pair (.sl (.int .i64)) (.pair (.int .i64) (.pair (.int .i64) .bool)))))) (.c (.val (.int .i64)) .e)) (F_laws_szTerrain k)) :=
  fun_ok (cx := cx_laws_szTerrain) (by kernel_rfl) ⟨types, (E_laws_szIntS_ok k).1, (E_laws_szIntS_ok k).2, mixed, rfl⟩ Tryd.func114 rfl (LoopsOK.nil) [] (by kernel_rfl) (fun x K => by kernel_rfl)
def E_laws_szTerrain (k : Nat) : Tbl := tcons 114 (ftab (.c (.val (.st (.pair .str (.pair (.sl (.int .i64)) (.pair (.int .i64) (.pair (.int .i64) .bool)))))) (.c (.val (.int .i64)) .e)) (F_laws_szTerrain k)) (E_laws_szIntS k)
theorem E_laws_szTerrain_ok (k : Nat) : SoundE Tryd.prog glob (E_laws_szTerrain k) ∧ NatE (E_laws_szTerrain k) := tab_cons (s_laws_szTerrain k) (E_laws_szIntS_ok k)
/-- laws.szTerrainS -/
def cx_laws_szTerrainS : Cx := { N := 27, G := glob, C := tys, ad := fun d => false, wk := false }
def sp_laws_szTerrainS_l0 : LSp where
  cv := []
  ts := [(0, .val (.sl (.st (.pair .str (.pair (.sl (.int .i64)) (.pair (.int .i64) (.pair (.int .i64) .bool))))))), (1, .val (.int .i64)), (5, .val (.int .i64))]
  ids := []
  tx := fun e => match e with | .exit i => bif Nat.beq i 0 then [1] else [] | .ret => [4] | .normal => []
  ix := fun e => match e with | .exit i => bif Nat.beq i 0 then [] else [] | .ret => [] | .normal => []
def F_laws_szTerrainS_l0 (k : Nat) : LArg sp_laws_szTerrainS_l0 := fun K n x y => laws_szTerrainS_l0 k (fun (y0 : Int) => K (.exit 0) (mkSt [(1, .val (.int .i64) y0)] [])) (fun (y0 : Int) => K (.ret) (mkSt [(4, .val (.int .i64) y0)] [])) n x.1 x.2.1 x.2.2.1
def LO_laws_szTerrainS_l0 (k : Nat) : LTbl := (lcons 5 (ltab sp_laws_szTerrainS_l0 (F_laws_szTerrainS_l0 k) k) lnil)
theorem lk_laws_szTerrainS_l0 (k : Nat) : LoopsOK Tryd.prog glob (E_laws_szTerrain k) cx_laws_szTerrainS (LO_laws_szTerrainS_l0 k) ((5, (loopB Tryd.f65 5)) :: []) :=
  LoopsOK.cons (LoopsOK.nil) (E_laws_szTerrain_ok k).2 (F := F_laws_szTerrainS_l0 k) k [] (by kernel_rfl) (by kernel_rfl) (fun K x y => rfl) (fun n x y K => by kernel_rfl)
def F_laws_szTerrainS (k : Nat) : FArg (.c (.val (.sl (.st (.pair .str (.pair (.sl (.int .i64)) (.pair (.int .i64) (.pair (.int .i64) .bool))))))) (.c (.val (.int .i64)) .e)) := fun x K => laws_szTerrainS k x.1 x.2.1 (fun (r0 : Int) => K [⟨(.int .i64), r0, true⟩])
theorem s_laws_szTerrainS (k : Nat) : SoundF Tryd.prog glob 65 (ftab (.c (.val (.sl (.st (.pair .str (.pair (.sl (.int .i64)) (.pair (.int .i64) (.pair (.int .i64) .bool))))))) (.c (.val (.int .i64)) .e)) (F_laws_szTerrainS k)) :=
  fun_ok (cx := cx_laws_szTerrainS) (by kernel_rfl) ⟨types, (E_laws_szTerrain_ok k).1, (E_laws_szTerrain_ok k).2, mixed, rfl⟩ Tryd.func65 rfl (lk_laws_szTerrainS_l0 k) [0] (by kernel_rfl) (fun x K => by kernel_rfl)
def E_laws_szTerrainS (k : Nat) : Tbl := tcons 65 (ftab (.c (.val (.sl (.st (.pair .str (.pair (.sl (.int .i64)) (.pair (.int .i64) (.pair (.int .i64) .bool))))))) (.c (.val (.int .i64)) .e)) (F_laws_szTerrainS k)) (E_laws_szTerrain k)
theorem E_laws_szTerrainS_ok (k : Nat) : SoundE Tryd.prog glob (E_laws_szTerrainS k) ∧ NatE (E_laws_szTerrainS k) := tab_cons (s_laws_szTerrainS k) (E_laws_szTerrain_ok k)
/-- laws.szKind -/
def cx_laws_szKind : Cx := { N := 13, G := glob, C := tys, ad := fun d => false, wk := false }
def F_laws_szKind (k : Nat) : FArg (.c (.val (.st (.pair .str (.pair (.int .i64) (.pair (.int .i64) (.pair (.int .i64) (.pair .bool (.int .i64)))))))) (.c (.val (.int .i64)) .e)) := fun x K => laws_szKind x.1 x.2.1 (fun (r0 : Int) => K [⟨(.int .i64), r0, true⟩])
theorem s_laws_szKind (k : Nat) : SoundF Tryd.prog glob 115 (ftab (.c (.val (.st (.pair .str (.pair (.int .i64) (.pair (.int .i64) (.pair (.int .i64) (.pair .bool (.int .i64)))))))) (.c (.val (.int .i64)) .e)) (F_laws_szKind k)) :=
  fun_ok (cx := cx_laws_szKind) (by kernel_rfl) ⟨types, (E_laws_szTerrainS_ok k).1, (E_laws_szTerrainS_ok k).2, mixed, rfl⟩ Tryd.func115 rfl (LoopsOK.nil) [] (by kernel_rfl) (fun x K => by kernel_rfl)
def E_laws_szKind (k : Nat) : Tbl := tcons 115 (ftab (.c (.val (.st (.pair .str (.pair (.int .i64) (.pair (.int .i64) (.pair (.int .i64) (.pair .bool (.int .i64)))))))) (.c (.val (.int .i64)) .e)) (F_laws_szKind k)) (E_laws_szTerrainS k)
theorem E_laws_szKind_ok (k : Nat) : SoundE Tryd.prog glob (E_laws_szKind k) ∧ NatE (E_laws_szKind k) := tab_cons (s_laws_szKind k) (E_laws_szTerrainS_ok k)
/-- laws.szKindS -/
def cx_laws_szKindS : Cx := { N := 27, G := glob, C := tys, ad := fun d => false, wk := false }
def sp_laws_szKindS_l0 : LSp where
  cv := []
  ts := [(0, .val (.sl (.st (.pair .str (.pair (.int .i64) (.pair (.int .i64) (.pair (.int .i64) (.pair .bool (.int .i64))))))))), (1, .val (.int .i64)), (5, .val (.int .i64))]
  ids := []
  tx := fun e => match e with | .exit i => bif Nat.beq i 0 then [1] else [] | .ret => [4] | .normal => []
  ix := fun e => match e with | .exit i => bif Nat.beq i 0 then [] else [] | .ret => [] | .normal => []
def F_laws_szKindS_l0 (k : Nat) : LArg sp_laws_szKindS_l0 := fun K n x y => laws_szKindS_l0 k (fun (y0 : Int) => K (.exit 0) (mkSt [(1, .val (.int .i64) y0)] [])) (fun (y0 : Int) => K (.ret) (mkSt [(4, .val (.int .i64) y0)] [])) n x.1 x.2.1 x.2.2.1
def LO_laws_szKindS_l0 (k : Nat) : LTbl := (lcons 5 (ltab sp_laws_szKindS_l0 (F_laws_szKindS_l0 k) k) lnil)
theorem lk_laws_szKindS_l0 (k : Nat) : LoopsOK Tryd.prog glob (E_laws_szKind k) cx_laws_szKindS (LO_laws_szKindS_l0 k) ((5, (loopB Tryd.f66 5)) :: []) :=
  LoopsOK.cons (LoopsOK.nil) (E_laws_szKind_ok k).2 (F := F_laws_szKindS_l0 k) k [] (by kernel_rfl) (by kernel_rfl) (fun K x y => rfl) (fun n x y K => by kernel_rfl)
def F_laws_szKindS (k : Nat) : FArg (.c (.val (.sl (.st (.pair .str (.pair (.int .i64) (.pair (.int .i64) (.pair (.int .i64) (.pair .bool (.int .i64))))))))) (.c (.val (.int .i64)) .e)) := fun x K => laws_szKindS k x.1 x.2.1 (fun (r0 : Int) => K [⟨(.int .i64), r0, true⟩])
theorem s_laws_szKindS (k : Nat) : SoundF Tryd.prog glob 66 (ftab (.c (.val (.sl (.st (.pair .str (.pair (.int .i64) (.pair (.int .i64) (.pair (.int .i64) (.pair .bool (.int .i64))))))))) (.c (.val (.int .i64)) .e)) (F_laws_szKindS k)) :=
  fun_ok (cx := cx_laws_szKindS) (by kernel_rfl) ⟨types, (E_laws_szKind_ok k).1, (E_laws_szKind_ok k).2, mixed, rfl⟩ Tryd.func66 rfl (lk_laws_szKindS_l0 k) [0] (by kernel_rfl) (fun x K => by kernel_rfl)
def E_laws_szKindS (k : Nat) : Tbl := tcons 66 (ftab (.c (.val (.sl (.st (.pair .str (.pair (.int .i64) (.pair (.int .i64) (.pair (.int .i64) (.pair .bool (.int .i64))))))))) (.c (.val (.int .i64)) .e)) (F_laws_szKindS k)) (E_laws_szKind k)
theorem E_laws_szKindS_ok (k : Nat) : SoundE Tryd.prog glob (E_laws_szKindS k) ∧ NatE (E_laws_szKindS k) := tab_cons (s_laws_szKindS k) (E_laws_szKind_ok k)
/-- laws.szRules -/
def cx_laws_szRules : Cx := { N := 18, G := glob, C := tys, ad := fun d => false, wk := false }
def F_laws_szRules (k : Nat) : FArg (.c (.val (.st (.pair (.sl (.st (.pair .str (.pair (.sl (.int .i64)) (.pair (.int .i64) (.pair (.int .i64) .bool)))))) (.pair (.sl (.st (.pair .str (.pair (.int .i64) (.pair (.int .i64) (.pair (.int .i64) (.pair .bool (.int .i64)))))))) (.pair (.int .i64) (.pair (.int .i64) (.pair (.int .i64) (.pair (.int .i64) (.int .i64))))))))) (.c (.val (.int .i64)) .e)) := fun x K => laws_szRules k x.1 x.2.1 (fun (r0 : Int) => K [⟨(.int .i64), r0, true⟩])
theorem s_laws_szRules (k : Nat) : SoundF Tryd.prog glob 21 (ftab (.c (.val (.st (.pair (.sl (.st (.pair .str (.pair (.sl (.int .i64)) (.pair (.int .i64) (.pair (.int .i64) .bool)))))) (.pair (.sl (.st (.pair .str (.pair (.int .i64) (.pair (.int .i64) (.pair (.int .i64) (.pair .bool (.int .i64)))))))) (.pair (.int .i64) (.pair (.int .i64) (.pair (.int .i64) (.pair (.int .i64) (.int .i64))))))))) (.c (.val (.int .i64)) .e)) (F_laws_szRules k)) :=
  fun_ok (cx := cx_laws_szRules) (by kernel_rfl) ⟨types, (E_laws_szKindS_ok k).1, (E_laws_szKindS_ok k).2, mixed, rfl⟩ Tryd.func21 rfl (LoopsOK.nil) [] (by kernel_rfl) (fun x K => by kernel_rfl)
def E_laws_szRules (k : Nat) : Tbl := tcons 21 (ftab (.c (.val (.st (.pair (.sl (.st (.pair .str (.pair (.sl (.int .i64)) (.pair (.int .i64) (.pair (.int .i64) .bool)))))) (.pair (.sl (.st (.pair .str (.pair (.int .i64) (.pair (.int .i64) (.pair (.int .i64) (.pair .bool (.int .i64)))))))) (.pair (.int .i64) (.pair (.int .i64) (.pair (.int .i64) (.pair (.int .i64) (.int .i64))))))))) (.c (.val (.int .i64)) .e)) (F_laws_szRules k)) (E_laws_szKindS k)
theorem E_laws_szRules_ok (k : Nat) : SoundE Tryd.prog glob (E_laws_szRules k) ∧ NatE (E_laws_szRules k) := tab_cons (s_laws_szRules k) (E_laws_szKindS_ok k)
/-- laws.szMap -/
def cx_laws_szMap : Cx := { N := 24, G := glob, C := tys, ad := fun d => false, wk := false }
def F_laws_szMap (k : Nat) : FArg (.c (.val (.st (.pair (.int .i64) (.pair (.int .i64) (.pair (.sl (.int .i64)) (.pair (.sl (.int .i64)) (.sl (.int .i64)))))))) (.c (.val (.int .i64)) .e)) := fun x K => laws_szMap x.1 x.2.1 (fun (r0 : Int) => K [⟨(.int .i64), r0, true⟩])
theorem s_laws_szMap (k : Nat) : SoundF Tryd.prog glob 22 (ftab (.c (.val (.st (.pair (.int .i64) (.pair (.int .i64) (.pair (.sl (.int .i64)) (.pair (.sl (.int .i64)) (.sl (.int .i64)))))))) (.c (.val (.int .i64)) .e)) (F_laws_szMap k)) :=
  fun_ok (cx := cx_laws_szMap) (by kernel_rfl) ⟨types, (E_laws_szRules_ok k).1, (E_laws_szRules_ok k).2, mixed, rfl⟩ Tryd.func22 rfl (LoopsOK.nil) [] (by kernel_rfl) (fun x K => by kernel_rfl)
def E_laws_szMap (k : Nat) : Tbl := tcons 22 (ftab (.c (.val (.st (.pair (.int .i64) (.pair (.int .i64) (.pair (.sl (.int .i64)) (.pair (.sl (.int .i64)) (.sl (.int .i64)))))))) (.c (.val (.int .i64)) .e)) (F_laws_szMap k)) (E_laws_szRules k)
theorem E_laws_szMap_ok (k : Nat) : SoundE Tryd.prog glob (E_laws_szMap k) ∧ NatE (E_laws_szMap k) := tab_cons (s_laws_szMap k) (E_laws_szRules_ok k)
/-- laws.toIntS -/
def cx_laws_toIntS : Cx := { N := 22, G := glob, C := tys, ad := fun d => false, wk := false, dp := true }
def sp_laws_toIntS_l0 : LSp where
  cv := []
  ts := [(0, .val (.sl (.int .i64))), (3, .own 7), (4, .val (.int .i64))]
  ids := [(7, .row (.int .i64))]
  tx := fun e => match e with | .exit i => bif Nat.beq i 0 then [3] else [] | .ret => [] | .normal => []
  ix := fun e => match e with | .exit i => bif Nat.beq i 0 then [7] else [] | .ret => [] | .normal => []
def F_laws_toIntS_l0 (k : Nat) : LArg sp_laws_toIntS_l0 := fun K n x y => laws_toIntS_l0 k (fun (y0 : List Int) => K (.exit 0) (mkSt [(3, .own 7 1)] [(7, some (.row (.int .i64) y0))])) n x.1 x.2.2.1 y.1
def LO_laws_toIntS_l0 (k : Nat) : LTbl := (lcons 3 (ltab sp_laws_toIntS_l0 (F_laws_toIntS_l0 k) k) lnil)
theorem lk_laws_toIntS_l0 (k : Nat) : LoopsOK Tryd.prog glob (E_laws_szMap k) cx_laws_toIntS (LO_laws_toIntS_l0 k) ((3, (loopB Tryd.f73 3)) :: []) :=
  LoopsOK.cons (LoopsOK.nil) (E_laws_szMap_ok k).2 (F := F_laws_toIntS_l0 k) k [] (by kernel_rfl) (by kernel_rfl) (fun K x y => rfl) (fun n x y K => by kernel_rfl)
def F_laws_toIntS (k : Nat) : FArg (.c (.val (.sl (.int .i64))) .e) := fun x K => laws_toIntS k x.1 (fun (r0 : List Int) => K [⟨(.sl (.int .i64)), r0, true⟩])
theorem s_laws_toIntS (k : Nat) : SoundF Tryd.prog glob 73 (ftab (.c (.val (.sl (.int .i64))) .e) (F_laws_toIntS k)) :=
  fun_ok (cx := cx_laws_toIntS) (by kernel_rfl) ⟨types, (E_laws_szMap_ok k).1, (E_laws_szMap_ok k).2, mixed, rfl⟩ Tryd.func73 rfl (lk_laws_toIntS_l0 k) [0] (by kernel_rfl) (fun x K => by kernel_rfl)
def E_laws_toIntS (k : Nat) : Tbl := tcons 73 (ftab (.c (.val (.sl (.int .i64))) .e) (F_laws_toIntS k)) (E_laws_szMap k)
theorem E_laws_toIntS_ok (k : Nat) : SoundE Tryd.prog glob (E_laws_toIntS k) ∧ NatE (E_laws_toIntS k) := tab_cons (s_laws_toIntS k) (E_laws_szMap_ok k)
/-- laws.toTerrain -/
def cx_laws_toTerrain : Cx := { N := 21, G := glob, C := tys, ad := fun d => Nat.beq d 9, wk := false, dp := true }
def F_laws_toTerrain (k : Nat) : FArg (.c (.val (.st (.pair .str (.pair (.sl (.int .i64)) (.pair (.int .i64) (.pair (.int .i64) .bool)))))) .e) := fun x K => laws_toTerrain k x.1 (fun (r0 : ByteArray × (List Int) × Int × Int × Bool) => K [⟨(.st (.pair .str (.pair (.sl (.int .i64)) (.pair (.int .i64) (.pair (.int .i64) .bool))))), r0, true⟩])
theorem s_laws_toTerrain (k : Nat) : SoundF Tryd.prog glob 120 (ftab (.c (.val (.st (.pair .str (.pair (.sl (.int .i64)) (.pair (.int .i64) (.pair (.int .i64) .bool)))))) .e) (F_laws_toTerrain k)) :=
  fun_ok (cx := cx_laws_toTerrain) (by kernel_rfl) ⟨types, (E_laws_toIntS_ok k).1, (E_laws_toIntS_ok k).2, mixed, rfl⟩ Tryd.func120 rfl (LoopsOK.nil) [] (by kernel_rfl) (fun x K => by kernel_rfl)
def E_laws_toTerrain (k : Nat) : Tbl := tcons 120 (ftab (.c (.val (.st (.pair .str (.pair (.sl (.int .i64)) (.pair (.int .i64) (.pair (.int .i64) .bool)))))) .e) (F_laws_toTerrain k)) (E_laws_toIntS k)
theorem E_laws_toTerrain_ok (k : Nat) : SoundE Tryd.prog glob (E_laws_toTerrain k) ∧ NatE (E_laws_toTerrain k) := tab_cons (s_laws_toTerrain k) (E_laws_toIntS_ok k)
/-- laws.toTerrainS -/
def cx_laws_toTerrainS : Cx := { N := 23, G := glob, C := tys, ad := fun d => Nat.beq d 20, wk := false, dp := true }
def sp_laws_toTerrainS_l0 : LSp where
  cv := []
  ts := [(0, .val (.sl (.st (.pair .str (.pair (.sl (.int .i64)) (.pair (.int .i64) (.pair (.int .i64) .bool))))))), (3, .own 7), (4, .val (.int .i64))]
  ids := [(7, .deep (.st (.pair .str (.pair (.sl (.int .i64)) (.pair (.int .i64) (.pair (.int .i64) .bool))))))]
  tx := fun e => match e with | .exit i => bif Nat.beq i 0 then [3] else [] | .ret => [] | .normal => []
  ix := fun e => match e with | .exit i => bif Nat.beq i 0 then [7] else [] | .ret => [] | .normal => []
def F_laws_toTerrainS_l0 (k : Nat) : LArg sp_laws_toTerrainS_l0 := fun K n x y => laws_toTerrainS_l0 k (fun (y0 : List (ByteArray × (List Int) × Int × Int × Bool)) => K (.exit 0) (mkSt [(3, .own 7 1)] [(7, some (.deep (.st (.pair .str (.pair (.sl (.int .i64)) (.pair (.int .i64) (.pair (.int .i64) .bool))))) y0 0))])) n x.1 x.2.2.1 y.1
def LO_laws_toTerrainS_l0 (k : Nat) : LTbl := (lcons 3 (ltab sp_laws_toTerrainS_l0 (F_laws_toTerrainS_l0 k) k) lnil)
theorem lk_laws_toTerrainS_l0 (k : Nat) : LoopsOK Tryd.prog glob (E_laws_toTerrain k) cx_laws_toTerrainS (LO_laws_toTerrainS_l0 k) ((3, (loopB Tryd.f71 3)) :: []) :=
  LoopsOK.cons (LoopsOK.nil) (E_laws_toTerrain_ok k).2 (F := F_laws_toTerrainS_l0 k) k [] (by kernel_rfl) (by kernel_rfl) (fun K x y => rfl) (fun n x y K => by kernel_rfl)
def F_laws_toTerrainS (k : Nat) : FArg (.c (.val (.sl (.st (.pair .str (.pair (.sl (.int .i64)) (.pair (.int .i64) (.pair (.int .i64) .bool))))))) .e) := fun x K => laws_toTerrainS k x.1 (fun (r0 : List (ByteArray × (List Int) × Int × Int × Bool)) => K [⟨(.sl (.st (.pair .str (.pair (.sl (.int .i64)) (.pair (.int .i64) (.pair (.int .i64) .bool)))))), r0, true⟩])
theorem s_laws_toTerrainS (k : Nat) : SoundF Tryd.prog glob 71 (ftab (.c (.val (.sl (.st (.pair .str (.pair (.sl (.int .i64)) (.pair (.int .i64) (.pair (.int .i64) .bool))))))) .e) (F_laws_toTerrainS k)) :=
  fun_ok (cx := cx_laws_toTerrainS) (by kernel_rfl) ⟨types, (E_laws_toTerrain_ok k).1, (E_laws_toTerrain_ok k).2, mixed, rfl⟩ Tryd.func71 rfl (lk_laws_toTerrainS_l0 k) [0] (by kernel_rfl) (fun x K => by kernel_rfl)
def E_laws_toTerrainS (k : Nat) : Tbl := tcons 71 (ftab (.c (.val (.sl (.st (.pair .str (.pair (.sl (.int .i64)) (.pair (.int .i64) (.pair (.int .i64) .bool))))))) .e) (F_laws_toTerrainS k)) (E_laws_toTerrain k)
theorem E_laws_toTerrainS_ok (k : Nat) : SoundE Tryd.prog glob (E_laws_toTerrainS k) ∧ NatE (E_laws_toTerrainS k) := tab_cons (s_laws_toTerrainS k) (E_laws_toTerrain_ok k)
/-- laws.toKind -/
def cx_laws_toKind : Cx := { N := 23, G := glob, C := tys, ad := fun d => false, wk := false, dp := true }
def F_laws_toKind (k : Nat) : FArg (.c (.val (.st (.pair .str (.pair (.int .i64) (.pair (.int .i64) (.pair (.int .i64) (.pair .bool (.int .i64)))))))) .e) := fun x K => laws_toKind x.1 (fun (r0 : ByteArray × Int × Int × Int × Bool × Int) => K [⟨(.st (.pair .str (.pair (.int .i64) (.pair (.int .i64) (.pair (.int .i64) (.pair .bool (.int .i64))))))), r0, true⟩])
theorem s_laws_toKind (k : Nat) : SoundF Tryd.prog glob 121 (ftab (.c (.val (.st (.pair .str (.pair (.int .i64) (.pair (.int .i64) (.pair (.int .i64) (.pair .bool (.int .i64)))))))) .e) (F_laws_toKind k)) :=
  fun_ok (cx := cx_laws_toKind) (by kernel_rfl) ⟨types, (E_laws_toTerrainS_ok k).1, (E_laws_toTerrainS_ok k).2, mixed, rfl⟩ Tryd.func121 rfl (LoopsOK.nil) [] (by kernel_rfl) (fun x K => by kernel_rfl)
def E_laws_toKind (k : Nat) : Tbl := tcons 121 (ftab (.c (.val (.st (.pair .str (.pair (.int .i64) (.pair (.int .i64) (.pair (.int .i64) (.pair .bool (.int .i64)))))))) .e) (F_laws_toKind k)) (E_laws_toTerrainS k)
theorem E_laws_toKind_ok (k : Nat) : SoundE Tryd.prog glob (E_laws_toKind k) ∧ NatE (E_laws_toKind k) := tab_cons (s_laws_toKind k) (E_laws_toTerrainS_ok k)
/-- laws.toKindS -/
def cx_laws_toKindS : Cx := { N := 23, G := glob, C := tys, ad := fun d => Nat.beq d 20, wk := false, dp := true }
def sp_laws_toKindS_l0 : LSp where
  cv := []
  ts := [(0, .val (.sl (.st (.pair .str (.pair (.int .i64) (.pair (.int .i64) (.pair (.int .i64) (.pair .bool (.int .i64))))))))), (3, .own 7), (4, .val (.int .i64))]
  ids := [(7, .row (.st (.pair .str (.pair (.int .i64) (.pair (.int .i64) (.pair (.int .i64) (.pair .bool (.int .i64))))))))]
  tx := fun e => match e with | .exit i => bif Nat.beq i 0 then [3] else [] | .ret => [] | .normal => []
  ix := fun e => match e with | .exit i => bif Nat.beq i 0 then [7] else [] | .ret => [] | .normal => []
def F_laws_toKindS_l0 (k : Nat) : LArg sp_laws_toKindS_l0 := fun K n x y => laws_toKindS_l0 k (fun (y0 : List (ByteArray × Int × Int × Int × Bool × Int)) => K (.exit 0) (mkSt [(3, .own 7 1)] [(7, some (.row (.st (.pair .str (.pair (.int .i64) (.pair (.int .i64) (.pair (.int .i64) (.pair .bool (.int .i64))))))) y0))])) n x.1 x.2.2.1 y.1
def LO_laws_toKindS_l0 (k : Nat) : LTbl := (lcons 3 (ltab sp_laws_toKindS_l0 (F_laws_toKindS_l0 k) k) lnil)
theorem lk_laws_toKindS_l0 (k : Nat) : LoopsOK Tryd.prog glob (E_laws_toKind k) cx_laws_toKindS (LO_laws_toKindS_l0 k) ((3, (loopB Tryd.f72 3)) :: []) :=
  LoopsOK.cons (LoopsOK.nil) (E_laws_toKind_ok k).2 (F := F_laws_toKindS_l0 k) k [] (by kernel_rfl) (by kernel_rfl) (fun K x y => rfl) (fun n x y K => by kernel_rfl)
def F_laws_toKindS (k : Nat) : FArg (.c (.val (.sl (.st (.pair .str (.pair (.int .i64) (.pair (.int .i64) (.pair (.int .i64) (.pair .bool (.int .i64))))))))) .e) := fun x K => laws_toKindS k x.1 (fun (r0 : List (ByteArray × Int × Int × Int × Bool × Int)) => K [⟨(.sl (.st (.pair .str (.pair (.int .i64) (.pair (.int .i64) (.pair (.int .i64) (.pair .bool (.int .i64)))))))), r0, true⟩])
theorem s_laws_toKindS (k : Nat) : SoundF Tryd.prog glob 72 (ftab (.c (.val (.sl (.st (.pair .str (.pair (.int .i64) (.pair (.int .i64) (.pair (.int .i64) (.pair .bool (.int .i64))))))))) .e) (F_laws_toKindS k)) :=
  fun_ok (cx := cx_laws_toKindS) (by kernel_rfl) ⟨types, (E_laws_toKind_ok k).1, (E_laws_toKind_ok k).2, mixed, rfl⟩ Tryd.func72 rfl (lk_laws_toKindS_l0 k) [0] (by kernel_rfl) (fun x K => by kernel_rfl)
def E_laws_toKindS (k : Nat) : Tbl := tcons 72 (ftab (.c (.val (.sl (.st (.pair .str (.pair (.int .i64) (.pair (.int .i64) (.pair (.int .i64) (.pair .bool (.int .i64))))))))) .e) (F_laws_toKindS k)) (E_laws_toKind k)
theorem E_laws_toKindS_ok (k : Nat) : SoundE Tryd.prog glob (E_laws_toKindS k) ∧ NatE (E_laws_toKindS k) := tab_cons (s_laws_toKindS k) (E_laws_toKind_ok k)
/-- laws.toRules -/
def cx_laws_toRules : Cx := { N := 28, G := glob, C := tys, ad := fun d => Nat.beq d 6 || Nat.beq d 10, wk := false, dp := true }
def F_laws_toRules (k : Nat) : FArg (.c (.val (.st (.pair (.sl (.st (.pair .str (.pair (.sl (.int .i64)) (.pair (.int .i64) (.pair (.int .i64) .bool)))))) (.pair (.sl (.st (.pair .str (.pair (.int .i64) (.pair (.int .i64) (.pair (.int .i64) (.pair .bool (.int .i64)))))))) (.pair (.int .i64) (.pair (.int .i64) (.pair (.int .i64) (.pair (.int .i64) (.int .i64))))))))) .e) := fun x K => laws_toRules k x.1 (fun (r0 : (List (ByteArray × (List Int) × Int × Int × Bool)) × (List (ByteArray × Int × Int × Int × Bool × Int)) × Int × Int × Int × Int × Int) => K [⟨(.st (.pair (.sl (.st (.pair .str (.pair (.sl (.int .i64)) (.pair (.int .i64) (.pair (.int .i64) .bool)))))) (.pair (.sl (.st (.pair .str (.pair (.int .i64) (.pair (.int .i64) (.pair (.int .i64) (.pair .bool (.int .i64)))))))) (.pair (.int .i64) (.pair (.int .i64) (.pair (.int .i64) (.pair (.int .i64) (.int .i64)))))))), r0, true⟩])
theorem s_laws_toRules (k : Nat) : SoundF Tryd.prog glob 24 (ftab (.c (.val (.st (.pair (.sl (.st (.pair .str (.pair (.sl (.int .i64)) (.pair (.int .i64) (.pair (.int .i64) .bool)))))) (.pair (.sl (.st (.pair .str (.pair (.int .i64) (.pair (.int .i64) (.pair (.int .i64) (.pair .bool (.int .i64)))))))) (.pair (.int .i64) (.pair (.int .i64) (.pair (.int .i64) (.pair (.int .i64) (.int .i64))))))))) .e) (F_laws_toRules k)) :=
  fun_ok (cx := cx_laws_toRules) (by kernel_rfl) ⟨types, (E_laws_toKindS_ok k).1, (E_laws_toKindS_ok k).2, mixed, rfl⟩ Tryd.func24 rfl (LoopsOK.nil) [] (by kernel_rfl) (fun x K => by kernel_rfl)
def E_laws_toRules (k : Nat) : Tbl := tcons 24 (ftab (.c (.val (.st (.pair (.sl (.st (.pair .str (.pair (.sl (.int .i64)) (.pair (.int .i64) (.pair (.int .i64) .bool)))))) (.pair (.sl (.st (.pair .str (.pair (.int .i64) (.pair (.int .i64) (.pair (.int .i64) (.pair .bool (.int .i64)))))))) (.pair (.int .i64) (.pair (.int .i64) (.pair (.int .i64) (.pair (.int .i64) (.int .i64))))))))) .e) (F_laws_toRules k)) (E_laws_toKindS k)
theorem E_laws_toRules_ok (k : Nat) : SoundE Tryd.prog glob (E_laws_toRules k) ∧ NatE (E_laws_toRules k) := tab_cons (s_laws_toRules k) (E_laws_toKindS_ok k)
/-- laws.toMap -/
def cx_laws_toMap : Cx := { N := 23, G := glob, C := tys, ad := fun d => Nat.beq d 12 || Nat.beq d 16 || Nat.beq d 20, wk := false, dp := true }
def F_laws_toMap (k : Nat) : FArg (.c (.val (.st (.pair (.int .i64) (.pair (.int .i64) (.pair (.sl (.int .i64)) (.pair (.sl (.int .i64)) (.sl (.int .i64)))))))) .e) := fun x K => laws_toMap k x.1 (fun (r0 : Int × Int × (List Int) × (List Int) × List Int) => K [⟨(.st (.pair (.int .i64) (.pair (.int .i64) (.pair (.sl (.int .i64)) (.pair (.sl (.int .i64)) (.sl (.int .i64))))))), r0, true⟩])
theorem s_laws_toMap (k : Nat) : SoundF Tryd.prog glob 25 (ftab (.c (.val (.st (.pair (.int .i64) (.pair (.int .i64) (.pair (.sl (.int .i64)) (.pair (.sl (.int .i64)) (.sl (.int .i64)))))))) .e) (F_laws_toMap k)) :=
  fun_ok (cx := cx_laws_toMap) (by kernel_rfl) ⟨types, (E_laws_toRules_ok k).1, (E_laws_toRules_ok k).2, mixed, rfl⟩ Tryd.func25 rfl (LoopsOK.nil) [] (by kernel_rfl) (fun x K => by kernel_rfl)
def E_laws_toMap (k : Nat) : Tbl := tcons 25 (ftab (.c (.val (.st (.pair (.int .i64) (.pair (.int .i64) (.pair (.sl (.int .i64)) (.pair (.sl (.int .i64)) (.sl (.int .i64)))))))) .e) (F_laws_toMap k)) (E_laws_toRules k)
theorem E_laws_toMap_ok (k : Nat) : SoundE Tryd.prog glob (E_laws_toMap k) ∧ NatE (E_laws_toMap k) := tab_cons (s_laws_toMap k) (E_laws_toRules_ok k)
/-- spec.l1In -/
def cx_spec_l1In : Cx := { N := 15, G := glob, C := tys, ad := fun d => false, wk := false }
def F_spec_l1In (k : Nat) : FArg (.c (.val (.int .i64)) (.c (.val (.int .i64)) (.c (.val (.int .i64)) .e))) := fun x K => spec_l1In x.1 x.2.1 x.2.2.1 (fun (r0 : Bool) => K [⟨.bool, r0, true⟩])
theorem s_spec_l1In (k : Nat) : SoundF Tryd.prog glob 95 (ftab (.c (.val (.int .i64)) (.c (.val (.int .i64)) (.c (.val (.int .i64)) .e))) (F_spec_l1In k)) :=
  fun_ok (cx := cx_spec_l1In) (by kernel_rfl) ⟨types, (E_laws_toMap_ok k).1, (E_laws_toMap_ok k).2, mixed, rfl⟩ Tryd.func95 rfl (LoopsOK.nil) [] (by kernel_rfl) (fun x K => by kernel_rfl)
def E_spec_l1In (k : Nat) : Tbl := tcons 95 (ftab (.c (.val (.int .i64)) (.c (.val (.int .i64)) (.c (.val (.int .i64)) .e))) (F_spec_l1In k)) (E_laws_toMap k)
theorem E_spec_l1In_ok (k : Nat) : SoundE Tryd.prog glob (E_spec_l1In k) ∧ NatE (E_spec_l1In k) := tab_cons (s_spec_l1In k) (E_laws_toMap_ok k)
/-- spec.rName -/
def cx_spec_rName : Cx := { N := 23, G := glob, C := tys, ad := fun d => false, wk := false }
def sp_spec_rName_l0 : LSp where
  cv := []
  ts := [(0, .val .str), (3, .val (.int .i64))]
  ids := []
  tx := fun e => match e with | .exit i => bif Nat.beq i 0 then [0] else [] | .ret => [2] | .normal => []
  ix := fun e => match e with | .exit i => bif Nat.beq i 0 then [] else [] | .ret => [] | .normal => []
def F_spec_rName_l0 (k : Nat) : LArg sp_spec_rName_l0 := fun K n x y => spec_rName_l0 k (fun (y0 : ByteArray) => K (.exit 0) (mkSt [(0, .val .str y0)] [])) (fun (y0 : Bool) => K (.ret) (mkSt [(2, .val .bool y0)] [])) n x.1 x.2.1
def LO_spec_rName_l0 (k : Nat) : LTbl := (lcons 2 (ltab sp_spec_rName_l0 (F_spec_rName_l0 k) k) lnil)
theorem lk_spec_rName_l0 (k : Nat) : LoopsOK Tryd.prog glob (E_spec_l1In k) cx_spec_rName (LO_spec_rName_l0 k) ((2, (loopB Tryd.f116 2)) :: []) :=
  LoopsOK.cons (LoopsOK.nil) (E_spec_l1In_ok k).2 (F := F_spec_rName_l0 k) k [] (by kernel_rfl) (by kernel_rfl) (fun K x y => rfl) (fun n x y K => by kernel_rfl)
def F_spec_rName (k : Nat) : FArg (.c (.val .str) .e) := fun x K => spec_rName k x.1 (fun (r0 : Bool) => K [⟨.bool, r0, true⟩])
theorem s_spec_rName (k : Nat) : SoundF Tryd.prog glob 116 (ftab (.c (.val .str) .e) (F_spec_rName k)) :=
  fun_ok (cx := cx_spec_rName) (by kernel_rfl) ⟨types, (E_spec_l1In_ok k).1, (E_spec_l1In_ok k).2, mixed, rfl⟩ Tryd.func116 rfl (lk_spec_rName_l0 k) [0] (by kernel_rfl) (fun x K => by kernel_rfl)
def E_spec_rName (k : Nat) : Tbl := tcons 116 (ftab (.c (.val .str) .e) (F_spec_rName k)) (E_spec_l1In k)
theorem E_spec_rName_ok (k : Nat) : SoundE Tryd.prog glob (E_spec_rName k) ∧ NatE (E_spec_rName k) := tab_cons (s_spec_rName k) (E_spec_l1In_ok k)
/-- spec.rTerrain -/
def cx_spec_rTerrain : Cx := { N := 20, G := glob, C := tys, ad := fun d => false, wk := false }
def sp_spec_rTerrain_l0 : LSp where
  cv := []
  ts := [(1, .val .str), (7, .val (.sl (.st (.pair .str (.pair (.sl (.int .i64)) (.pair (.int .i64) (.pair (.int .i64) .bool))))))), (8, .val (.int .i64)), (9, .val (.int .i64))]
  ids := []
  tx := fun e => match e with | .exit i => bif Nat.beq i 0 then [] else [] | .ret => [4] | .normal => []
  ix := fun e => match e with | .exit i => bif Nat.beq i 0 then [] else [] | .ret => [] | .normal => []
def F_spec_rTerrain_l0 (k : Nat) : LArg sp_spec_rTerrain_l0 := fun K n x y => spec_rTerrain_l0 k (K (.exit 0) (mkSt [] [])) (fun (y0 : Int) => K (.ret) (mkSt [(4, .val (.int .i64) y0)] [])) n x.1 x.2.1 x.2.2.1 x.2.2.2.1
def LO_spec_rTerrain_l0 (k : Nat) : LTbl := (lcons 2 (ltab sp_spec_rTerrain_l0 (F_spec_rTerrain_l0 k) k) lnil)
theorem lk_spec_rTerrain_l0 (k : Nat) : LoopsOK Tryd.prog glob (E_spec_rName k) cx_spec_rTerrain (LO_spec_rTerrain_l0 k) ((2, (loopB Tryd.f117 2)) :: []) :=
  LoopsOK.cons (LoopsOK.nil) (E_spec_rName_ok k).2 (F := F_spec_rTerrain_l0 k) k [] (by kernel_rfl) (by kernel_rfl) (fun K x y => rfl) (fun n x y K => by kernel_rfl)
def F_spec_rTerrain (k : Nat) : FArg (.c (.val (.sl (.st (.pair .str (.pair (.sl (.int .i64)) (.pair (.int .i64) (.pair (.int .i64) .bool))))))) (.c (.val .str) .e)) := fun x K => spec_rTerrain k x.1 x.2.1 (fun (r0 : Int) => K [⟨(.int .i64), r0, true⟩])
theorem s_spec_rTerrain (k : Nat) : SoundF Tryd.prog glob 117 (ftab (.c (.val (.sl (.st (.pair .str (.pair (.sl (.int .i64)) (.pair (.int .i64) (.pair (.int .i64) .bool))))))) (.c (.val .str) .e)) (F_spec_rTerrain k)) :=
  fun_ok (cx := cx_spec_rTerrain) (by kernel_rfl) ⟨types, (E_spec_rName_ok k).1, (E_spec_rName_ok k).2, mixed, rfl⟩ Tryd.func117 rfl (lk_spec_rTerrain_l0 k) [0] (by kernel_rfl) (fun x K => by kernel_rfl)
def E_spec_rTerrain (k : Nat) : Tbl := tcons 117 (ftab (.c (.val (.sl (.st (.pair .str (.pair (.sl (.int .i64)) (.pair (.int .i64) (.pair (.int .i64) .bool))))))) (.c (.val .str) .e)) (F_spec_rTerrain k)) (E_spec_rName k)
theorem E_spec_rTerrain_ok (k : Nat) : SoundE Tryd.prog glob (E_spec_rTerrain k) ∧ NatE (E_spec_rTerrain k) := tab_cons (s_spec_rTerrain k) (E_spec_rName_ok k)
/-- spec.l1All -/
def cx_spec_l1All : Cx := { N := 21, G := glob, C := tys, ad := fun d => false, wk := false }
def sp_spec_l1All_l0 : LSp where
  cv := []
  ts := [(1, .val (.int .i64)), (2, .val (.int .i64)), (9, .val (.sl (.int .i64))), (10, .val (.int .i64)), (11, .val (.int .i64))]
  ids := []
  tx := fun e => match e with | .exit i => bif Nat.beq i 0 then [] else [] | .ret => [6] | .normal => []
  ix := fun e => match e with | .exit i => bif Nat.beq i 0 then [] else [] | .ret => [] | .normal => []
def F_spec_l1All_l0 (k : Nat) : LArg sp_spec_l1All_l0 := fun K n x y => spec_l1All_l0 k (K (.exit 0) (mkSt [] [])) (fun (y0 : Bool) => K (.ret) (mkSt [(6, .val .bool y0)] [])) n x.1 x.2.1 x.2.2.1 x.2.2.2.1 x.2.2.2.2.1
def LO_spec_l1All_l0 (k : Nat) : LTbl := (lcons 2 (ltab sp_spec_l1All_l0 (F_spec_l1All_l0 k) k) lnil)
theorem lk_spec_l1All_l0 (k : Nat) : LoopsOK Tryd.prog glob (E_spec_rTerrain k) cx_spec_l1All (LO_spec_l1All_l0 k) ((2, (loopB Tryd.f102 2)) :: []) :=
  LoopsOK.cons (LoopsOK.nil) (E_spec_rTerrain_ok k).2 (F := F_spec_l1All_l0 k) k [] (by kernel_rfl) (by kernel_rfl) (fun K x y => rfl) (fun n x y K => by kernel_rfl)
def F_spec_l1All (k : Nat) : FArg (.c (.val (.sl (.int .i64))) (.c (.val (.int .i64)) (.c (.val (.int .i64)) .e))) := fun x K => spec_l1All k x.1 x.2.1 x.2.2.1 (fun (r0 : Bool) => K [⟨.bool, r0, true⟩])
theorem s_spec_l1All (k : Nat) : SoundF Tryd.prog glob 102 (ftab (.c (.val (.sl (.int .i64))) (.c (.val (.int .i64)) (.c (.val (.int .i64)) .e))) (F_spec_l1All k)) :=
  fun_ok (cx := cx_spec_l1All) (by kernel_rfl) ⟨types, (E_spec_rTerrain_ok k).1, (E_spec_rTerrain_ok k).2, mixed, rfl⟩ Tryd.func102 rfl (lk_spec_l1All_l0 k) [0] (by kernel_rfl) (fun x K => by kernel_rfl)
def E_spec_l1All (k : Nat) : Tbl := tcons 102 (ftab (.c (.val (.sl (.int .i64))) (.c (.val (.int .i64)) (.c (.val (.int .i64)) .e))) (F_spec_l1All k)) (E_spec_rTerrain k)
theorem E_spec_l1All_ok (k : Nat) : SoundE Tryd.prog glob (E_spec_l1All k) ∧ NatE (E_spec_l1All k) := tab_cons (s_spec_l1All k) (E_spec_rTerrain_ok k)
/-- spec.rKind -/
def cx_spec_rKind : Cx := { N := 20, G := glob, C := tys, ad := fun d => false, wk := false }
def sp_spec_rKind_l0 : LSp where
  cv := []
  ts := [(1, .val .str), (7, .val (.sl (.st (.pair .str (.pair (.int .i64) (.pair (.int .i64) (.pair (.int .i64) (.pair .bool (.int .i64))))))))), (8, .val (.int .i64)), (9, .val (.int .i64))]
  ids := []
  tx := fun e => match e with | .exit i => bif Nat.beq i 0 then [] else [] | .ret => [4] | .normal => []
  ix := fun e => match e with | .exit i => bif Nat.beq i 0 then [] else [] | .ret => [] | .normal => []
def F_spec_rKind_l0 (k : Nat) : LArg sp_spec_rKind_l0 := fun K n x y => spec_rKind_l0 k (K (.exit 0) (mkSt [] [])) (fun (y0 : Int) => K (.ret) (mkSt [(4, .val (.int .i64) y0)] [])) n x.1 x.2.1 x.2.2.1 x.2.2.2.1
def LO_spec_rKind_l0 (k : Nat) : LTbl := (lcons 2 (ltab sp_spec_rKind_l0 (F_spec_rKind_l0 k) k) lnil)
theorem lk_spec_rKind_l0 (k : Nat) : LoopsOK Tryd.prog glob (E_spec_l1All k) cx_spec_rKind (LO_spec_rKind_l0 k) ((2, (loopB Tryd.f118 2)) :: []) :=
  LoopsOK.cons (LoopsOK.nil) (E_spec_l1All_ok k).2 (F := F_spec_rKind_l0 k) k [] (by kernel_rfl) (by kernel_rfl) (fun K x y => rfl) (fun n x y K => by kernel_rfl)
def F_spec_rKind (k : Nat) : FArg (.c (.val (.sl (.st (.pair .str (.pair (.int .i64) (.pair (.int .i64) (.pair (.int .i64) (.pair .bool (.int .i64))))))))) (.c (.val .str) .e)) := fun x K => spec_rKind k x.1 x.2.1 (fun (r0 : Int) => K [⟨(.int .i64), r0, true⟩])
theorem s_spec_rKind (k : Nat) : SoundF Tryd.prog glob 118 (ftab (.c (.val (.sl (.st (.pair .str (.pair (.int .i64) (.pair (.int .i64) (.pair (.int .i64) (.pair .bool (.int .i64))))))))) (.c (.val .str) .e)) (F_spec_rKind k)) :=
  fun_ok (cx := cx_spec_rKind) (by kernel_rfl) ⟨types, (E_spec_l1All_ok k).1, (E_spec_l1All_ok k).2, mixed, rfl⟩ Tryd.func118 rfl (lk_spec_rKind_l0 k) [0] (by kernel_rfl) (fun x K => by kernel_rfl)
def E_spec_rKind (k : Nat) : Tbl := tcons 118 (ftab (.c (.val (.sl (.st (.pair .str (.pair (.int .i64) (.pair (.int .i64) (.pair (.int .i64) (.pair .bool (.int .i64))))))))) (.c (.val .str) .e)) (F_spec_rKind k)) (E_spec_l1All k)
theorem E_spec_rKind_ok (k : Nat) : SoundE Tryd.prog glob (E_spec_rKind k) ∧ NatE (E_spec_rKind k) := tab_cons (s_spec_rKind k) (E_spec_l1All_ok k)
/-- spec.rGood -/
def cx_spec_rGood : Cx := { N := 137, G := glob, C := tys, ad := fun d => false, wk := false }
def sp_spec_rGood_l0 : LSp where
  cv := []
  ts := [(1, .ptr 1), (20, .val (.sl (.st (.pair .str (.pair (.sl (.int .i64)) (.pair (.int .i64) (.pair (.int .i64) .bool))))))), (21, .val (.int .i64)), (22, .val (.int .i64))]
  ids := [(1, .box (.st (.pair (.sl (.st (.pair .str (.pair (.sl (.int .i64)) (.pair (.int .i64) (.pair (.int .i64) .bool)))))) (.pair (.sl (.st (.pair .str (.pair (.int .i64) (.pair (.int .i64) (.pair (.int .i64) (.pair .bool (.int .i64)))))))) (.pair (.int .i64) (.pair (.int .i64) (.pair (.int .i64) (.pair (.int .i64) (.int .i64)))))))) (.val (.st (.pair (.sl (.st (.pair .str (.pair (.sl (.int .i64)) (.pair (.int .i64) (.pair (.int .i64) .bool)))))) (.pair (.sl (.st (.pair .str (.pair (.int .i64) (.pair (.int .i64) (.pair (.int .i64) (.pair .bool (.int .i64)))))))) (.pair (.int .i64) (.pair (.int .i64) (.pair (.int .i64) (.pair (.int .i64) (.int .i64))))))))))]
  tx := fun e => match e with | .exit i => bif Nat.beq i 0 then [1] else [] | .ret => [2] | .normal => []
  ix := fun e => match e with | .exit i => bif Nat.beq i 0 then [1] else [] | .ret => [] | .normal => []
def F_spec_rGood_l0 (k : Nat) : LArg sp_spec_rGood_l0 := fun K n x y => spec_rGood_l0 k (fun (y0 : (List (ByteArray × (List Int) × Int × Int × Bool)) × (List (ByteArray × Int × Int × Int × Bool × Int)) × Int × Int × Int × Int × Int) => K (.exit 0) (mkSt [(1, .ptr 1 1 [])] [(1, some (.box (.st (.pair (.sl (.st (.pair .str (.pair (.sl (.int .i64)) (.pair (.int .i64) (.pair (.int .i64) .bool)))))) (.pair (.sl (.st (.pair .str (.pair (.int .i64) (.pair (.int .i64) (.pair (.int .i64) (.pair .bool (.int .i64)))))))) (.pair (.int .i64) (.pair (.int .i64) (.pair (.int .i64) (.pair (.int .i64) (.int .i64)))))))) (.val (.st (.pair (.sl (.st (.pair .str (.pair (.sl (.int .i64)) (.pair (.int .i64) (.pair (.int .i64) .bool)))))) (.pair (.sl (.st (.pair .str (.pair (.int .i64) (.pair (.int .i64) (.pair (.int .i64) (.pair .bool (.int .i64)))))))) (.pair (.int .i64) (.pair (.int .i64) (.pair (.int .i64) (.pair (.int .i64) (.int .i64)))))))) y0)))])) (fun (y0 : Bool) => K (.ret) (mkSt [(2, .val .bool y0)] [])) n x.2.1 x.2.2.1 x.2.2.2.1 y.1
def LO_spec_rGood_l0 (k : Nat) : LTbl := (lcons 4 (ltab sp_spec_rGood_l0 (F_spec_rGood_l0 k) k) lnil)
theorem lk_spec_rGood_l0 (k : Nat) : LoopsOK Tryd.prog glob (E_spec_rKind k) cx_spec_rGood (LO_spec_rGood_l0 k) ((4, (loopB Tryd.f68 4)) :: []) :=
  LoopsOK.cons (LoopsOK.nil) (E_spec_rKind_ok k).2 (F := F_spec_rGood_l0 k) k [] (by kernel_rfl) (by kernel_rfl) (fun K x y => rfl) (fun n x y K => by kernel_rfl)
def sp_spec_rGood_l1 : LSp where
  cv := []
  ts := [(1, .ptr 1), (69, .val (.sl (.st (.pair .str (.pair (.int .i64) (.pair (.int .i64) (.pair (.int .i64) (.pair .bool (.int .i64))))))))), (70, .val (.int .i64)), (71, .val (.int .i64))]
  ids := [(1, .box (.st (.pair (.sl (.st (.pair .str (.pair (.sl (.int .i64)) (.pair (.int .i64) (.pair (.int .i64) .bool)))))) (.pair (.sl (.st (.pair .str (.pair (.int .i64) (.pair (.int .i64) (.pair (.int .i64) (.pair .bool (.int .i64)))))))) (.pair (.int .i64) (.pair (.int .i64) (.pair (.int .i64) (.pair (.int .i64) (.int .i64)))))))) (.val (.st (.pair (.sl (.st (.pair .str (.pair (.sl (.int .i64)) (.pair (.int .i64) (.pair (.int .i64) .bool)))))) (.pair (.sl (.st (.pair .str (.pair (.int .i64) (.pair (.int .i64) (.pair (.int .i64) (.pair .bool (.int .i64)))))))) (.pair (.int .i64) (.pair (.int .i64) (.pair (.int .i64) (.pair (.int .i64) (.int .i64))))))))))]
  tx := fun e => match e with | .exit i => bif Nat.beq i 2 then [1] else [] | .ret => [2] | .normal => []
  ix := fun e => match e with | .exit i => bif Nat.beq i 2 then [1] else [] | .ret => [] | .normal => []
def F_spec_rGood_l1 (k : Nat) : LArg sp_spec_rGood_l1 := fun K n x y => spec_rGood_l1 k (fun (y0 : (List (ByteArray × (List Int) × Int × Int × Bool)) × (List (ByteArray × Int × Int × Int × Bool × Int)) × Int × Int × Int × Int × Int) => K (.exit 2) (mkSt [(1, .ptr 1 1 [])] [(1, some (.box (.st (.pair (.sl (.st (.pair .str (.pair (.sl (.int .i64)) (.pair (.int .i64) (.pair (.int .i64) .bool)))))) (.pair (.sl (.st (.pair .str (.pair (.int .i64) (.pair (.int .i64) (.pair (.int .i64) (.pair .bool (.int .i64)))))))) (.pair (.int .i64) (.pair (.int .i64) (.pair (.int .i64) (.pair (.int .i64) (.int .i64)))))))) (.val (.st (.pair (.sl (.st (.pair .str (.pair (.sl (.int .i64)) (.pair (.int .i64) (.pair (.int .i64) .bool)))))) (.pair (.sl (.st (.pair .str (.pair (.int .i64) (.pair (.int .i64) (.pair (.int .i64) (.pair .bool (.int .i64)))))))) (.pair (.int .i64) (.pair (.int .i64) (.pair (.int .i64) (.pair (.int .i64) (.int .i64)))))))) y0)))])) (fun (y0 : Bool) => K (.ret) (mkSt [(2, .val .bool y0)] [])) n x.2.1 x.2.2.1 x.2.2.2.1 y.1
def LO_spec_rGood_l1 (k : Nat) : LTbl := (lcons 10 (ltab sp_spec_rGood_l1 (F_spec_rGood_l1 k) k) (LO_spec_rGood_l0 k))
theorem lk_spec_rGood_l1 (k : Nat) : LoopsOK Tryd.prog glob (E_spec_rKind k) cx_spec_rGood (LO_spec_rGood_l1 k) ((10, (loopB Tryd.f68 10)) :: ((4, (loopB Tryd.f68 4)) :: [])) :=
  LoopsOK.cons (lk_spec_rGood_l0 k) (E_spec_rKind_ok k).2 (F := F_spec_rGood_l1 k) k [] (by kernel_rfl) (by kernel_rfl) (fun K x y => rfl) (fun n x y K => by kernel_rfl)
def F_spec_rGood (k : Nat) : FArg (.c (.val (.st (.pair (.sl (.st (.pair .str (.pair (.sl (.int .i64)) (.pair (.int .i64) (.pair (.int .i64) .bool)))))) (.pair (.sl (.st (.pair .str (.pair (.int .i64) (.pair (.int .i64) (.pair (.int .i64) (.pair .bool (.int .i64)))))))) (.pair (.int .i64) (.pair (.int .i64) (.pair (.int .i64) (.pair (.int .i64) (.int .i64))))))))) .e) := fun x K => spec_rGood k x.1 (fun (r0 : Bool) => K [⟨.bool, r0, true⟩])
theorem s_spec_rGood (k : Nat) : SoundF Tryd.prog glob 68 (ftab (.c (.val (.st (.pair (.sl (.st (.pair .str (.pair (.sl (.int .i64)) (.pair (.int .i64) (.pair (.int .i64) .bool)))))) (.pair (.sl (.st (.pair .str (.pair (.int .i64) (.pair (.int .i64) (.pair (.int .i64) (.pair .bool (.int .i64)))))))) (.pair (.int .i64) (.pair (.int .i64) (.pair (.int .i64) (.pair (.int .i64) (.int .i64))))))))) .e) (F_spec_rGood k)) :=
  fun_ok (cx := cx_spec_rGood) (by kernel_rfl) ⟨types, (E_spec_rKind_ok k).1, (E_spec_rKind_ok k).2, mixed, rfl⟩ Tryd.func68 rfl (lk_spec_rGood_l1 k) [1, 0] (by kernel_rfl) (fun x K => by kernel_rfl)
def E_spec_rGood (k : Nat) : Tbl := tcons 68 (ftab (.c (.val (.st (.pair (.sl (.st (.pair .str (.pair (.sl (.int .i64)) (.pair (.int .i64) (.pair (.int .i64) .bool)))))) (.pair (.sl (.st (.pair .str (.pair (.int .i64) (.pair (.int .i64) (.pair (.int .i64) (.pair .bool (.int .i64)))))))) (.pair (.int .i64) (.pair (.int .i64) (.pair (.int .i64) (.pair (.int .i64) (.int .i64))))))))) .e) (F_spec_rGood k)) (E_spec_rKind k)
theorem E_spec_rGood_ok (k : Nat) : SoundE Tryd.prog glob (E_spec_rGood k) ∧ NatE (E_spec_rGood k) := tab_cons (s_spec_rGood k) (E_spec_rKind_ok k)
/-- spec.mSize -/
def cx_spec_mSize : Cx := { N := 8, G := glob, C := tys, ad := fun d => false, wk := false }
def F_spec_mSize (k : Nat) : FArg (.c (.val (.st (.pair (.int .i64) (.pair (.int .i64) (.pair (.sl (.int .i64)) (.pair (.sl (.int .i64)) (.sl (.int .i64)))))))) .e) := fun x K => spec_mSize x.1 (fun (r0 : Int) => K [⟨(.int .i64), r0, true⟩])
theorem s_spec_mSize (k : Nat) : SoundF Tryd.prog glob 111 (ftab (.c (.val (.st (.pair (.int .i64) (.pair (.int .i64) (.pair (.sl (.int .i64)) (.pair (.sl (.int .i64)) (.sl (.int .i64)))))))) .e) (F_spec_mSize k)) :=
  fun_ok (cx := cx_spec_mSize) (by kernel_rfl) ⟨types, (E_spec_rGood_ok k).1, (E_spec_rGood_ok k).2, mixed, rfl⟩ Tryd.func111 rfl (LoopsOK.nil) [] (by kernel_rfl) (fun x K => by kernel_rfl)
def E_spec_mSize (k : Nat) : Tbl := tcons 111 (ftab (.c (.val (.st (.pair (.int .i64) (.pair (.int .i64) (.pair (.sl (.int .i64)) (.pair (.sl (.int .i64)) (.sl (.int .i64)))))))) .e) (F_spec_mSize k)) (E_spec_rGood k)
theorem E_spec_mSize_ok (k : Nat) : SoundE Tryd.prog glob (E_spec_mSize k) ∧ NatE (E_spec_mSize k) := tab_cons (s_spec_mSize k) (E_spec_rGood_ok k)
/-- spec.mHex -/
def cx_spec_mHex : Cx := { N := 14, G := glob, C := tys, ad := fun d => false, wk := false }
def F_spec_mHex (k : Nat) : FArg (.c (.val (.st (.pair (.int .i64) (.pair (.int .i64) (.pair (.sl (.int .i64)) (.pair (.sl (.int .i64)) (.sl (.int .i64)))))))) (.c (.val (.int .i64)) .e)) := fun x K => spec_mHex x.1 x.2.1 (fun (r0 : Int × Int) => K [⟨(.st (.pair (.int .i64) (.int .i64))), r0, true⟩])
theorem s_spec_mHex (k : Nat) : SoundF Tryd.prog glob 153 (ftab (.c (.val (.st (.pair (.int .i64) (.pair (.int .i64) (.pair (.sl (.int .i64)) (.pair (.sl (.int .i64)) (.sl (.int .i64)))))))) (.c (.val (.int .i64)) .e)) (F_spec_mHex k)) :=
  fun_ok (cx := cx_spec_mHex) (by kernel_rfl) ⟨types, (E_spec_mSize_ok k).1, (E_spec_mSize_ok k).2, mixed, rfl⟩ Tryd.func153 rfl (LoopsOK.nil) [] (by kernel_rfl) (fun x K => by kernel_rfl)
def E_spec_mHex (k : Nat) : Tbl := tcons 153 (ftab (.c (.val (.st (.pair (.int .i64) (.pair (.int .i64) (.pair (.sl (.int .i64)) (.pair (.sl (.int .i64)) (.sl (.int .i64)))))))) (.c (.val (.int .i64)) .e)) (F_spec_mHex k)) (E_spec_mSize k)
theorem E_spec_mHex_ok (k : Nat) : SoundE Tryd.prog glob (E_spec_mHex k) ∧ NatE (E_spec_mHex k) := tab_cons (s_spec_mHex k) (E_spec_mSize_ok k)
/-- spec.hStep -/
def cx_spec_hStep : Cx := { N := 20, G := glob, C := tys, ad := fun d => false, wk := false }
def F_spec_hStep (k : Nat) : FArg (.c (.val (.st (.pair (.int .i64) (.int .i64)))) (.c (.val (.int .i64)) .e)) := fun x K => spec_hStep x.1 x.2.1 (fun (r0 : Int × Int) => K [⟨(.st (.pair (.int .i64) (.int .i64))), r0, true⟩])
theorem s_spec_hStep (k : Nat) : SoundF Tryd.prog glob 152 (ftab (.c (.val (.st (.pair (.int .i64) (.int .i64)))) (.c (.val (.int .i64)) .e)) (F_spec_hStep k)) :=
  fun_ok (cx := cx_spec_hStep) (by kernel_rfl) ⟨types, (E_spec_mHex_ok k).1, (E_spec_mHex_ok k).2, mixed, rfl⟩ Tryd.func152 rfl (LoopsOK.nil) [] (by kernel_rfl) (fun x K => by kernel_rfl)
def E_spec_hStep (k : Nat) : Tbl := tcons 152 (ftab (.c (.val (.st (.pair (.int .i64) (.int .i64)))) (.c (.val (.int .i64)) .e)) (F_spec_hStep k)) (E_spec_mHex k)
theorem E_spec_hStep_ok (k : Nat) : SoundE Tryd.prog glob (E_spec_hStep k) ∧ NatE (E_spec_hStep k) := tab_cons (s_spec_hStep k) (E_spec_mHex_ok k)
/-- spec.mIndex -/
def cx_spec_mIndex : Cx := { N := 29, G := glob, C := tys, ad := fun d => false, wk := false }
def F_spec_mIndex (k : Nat) : FArg (.c (.val (.st (.pair (.int .i64) (.pair (.int .i64) (.pair (.sl (.int .i64)) (.pair (.sl (.int .i64)) (.sl (.int .i64)))))))) (.c (.val (.st (.pair (.int .i64) (.int .i64)))) .e)) := fun x K => spec_mIndex x.1 x.2.1 (fun (r0 : Int) => K [⟨(.int .i64), r0, true⟩])
theorem s_spec_mIndex (k : Nat) : SoundF Tryd.prog glob 151 (ftab (.c (.val (.st (.pair (.int .i64) (.pair (.int .i64) (.pair (.sl (.int .i64)) (.pair (.sl (.int .i64)) (.sl (.int .i64)))))))) (.c (.val (.st (.pair (.int .i64) (.int .i64)))) .e)) (F_spec_mIndex k)) :=
  fun_ok (cx := cx_spec_mIndex) (by kernel_rfl) ⟨types, (E_spec_hStep_ok k).1, (E_spec_hStep_ok k).2, mixed, rfl⟩ Tryd.func151 rfl (LoopsOK.nil) [] (by kernel_rfl) (fun x K => by kernel_rfl)
def E_spec_mIndex (k : Nat) : Tbl := tcons 151 (ftab (.c (.val (.st (.pair (.int .i64) (.pair (.int .i64) (.pair (.sl (.int .i64)) (.pair (.sl (.int .i64)) (.sl (.int .i64)))))))) (.c (.val (.st (.pair (.int .i64) (.int .i64)))) .e)) (F_spec_mIndex k)) (E_spec_hStep k)
theorem E_spec_mIndex_ok (k : Nat) : SoundE Tryd.prog glob (E_spec_mIndex k) ∧ NatE (E_spec_mIndex k) := tab_cons (s_spec_mIndex k) (E_spec_hStep_ok k)
/-- spec.mNext -/
def cx_spec_mNext : Cx := { N := 14, G := glob, C := tys, ad := fun d => false, wk := false }
def F_spec_mNext (k : Nat) : FArg (.c (.val (.st (.pair (.int .i64) (.pair (.int .i64) (.pair (.sl (.int .i64)) (.pair (.sl (.int .i64)) (.sl (.int .i64)))))))) (.c (.val (.int .i64)) (.c (.val (.int .i64)) .e))) := fun x K => spec_mNext x.1 x.2.1 x.2.2.1 (fun (r0 : Int) => K [⟨(.int .i64), r0, true⟩])
theorem s_spec_mNext (k : Nat) : SoundF Tryd.prog glob 131 (ftab (.c (.val (.st (.pair (.int .i64) (.pair (.int .i64) (.pair (.sl (.int .i64)) (.pair (.sl (.int .i64)) (.sl (.int .i64)))))))) (.c (.val (.int .i64)) (.c (.val (.int .i64)) .e))) (F_spec_mNext k)) :=
  fun_ok (cx := cx_spec_mNext) (by kernel_rfl) ⟨types, (E_spec_mIndex_ok k).1, (E_spec_mIndex_ok k).2, mixed, rfl⟩ Tryd.func131 rfl (LoopsOK.nil) [] (by kernel_rfl) (fun x K => by kernel_rfl)
def E_spec_mNext (k : Nat) : Tbl := tcons 131 (ftab (.c (.val (.st (.pair (.int .i64) (.pair (.int .i64) (.pair (.sl (.int .i64)) (.pair (.sl (.int .i64)) (.sl (.int .i64)))))))) (.c (.val (.int .i64)) (.c (.val (.int .i64)) .e))) (F_spec_mNext k)) (E_spec_mIndex k)
theorem E_spec_mNext_ok (k : Nat) : SoundE Tryd.prog glob (E_spec_mNext k) ∧ NatE (E_spec_mNext k) := tab_cons (s_spec_mNext k) (E_spec_mIndex_ok k)
/-- spec.l1Rising -/
def cx_spec_l1Rising : Cx := { N := 35, G := glob, C := tys, ad := fun d => false, wk := false }
def sp_spec_l1Rising_l0 : LSp where
  cv := []
  ts := [(0, .val (.sl (.int .i64))), (1, .val (.int .i64)), (2, .val (.int .i64)), (9, .val (.sl (.int .i64))), (10, .val (.int .i64)), (11, .val (.int .i64))]
  ids := []
  tx := fun e => match e with | .exit i => bif Nat.beq i 0 then [] else [] | .ret => [6] | .normal => []
  ix := fun e => match e with | .exit i => bif Nat.beq i 0 then [] else [] | .ret => [] | .normal => []
def F_spec_l1Rising_l0 (k : Nat) : LArg sp_spec_l1Rising_l0 := fun K n x y => spec_l1Rising_l0 k (K (.exit 0) (mkSt [] [])) (fun (y0 : Bool) => K (.ret) (mkSt [(6, .val .bool y0)] [])) n x.1 x.2.1 x.2.2.1 x.2.2.2.1 x.2.2.2.2.1 x.2.2.2.2.2.1
def LO_spec_l1Rising_l0 (k : Nat) : LTbl := (lcons 2 (ltab sp_spec_l1Rising_l0 (F_spec_l1Rising_l0 k) k) lnil)
theorem lk_spec_l1Rising_l0 (k : Nat) : LoopsOK Tryd.prog glob (E_spec_mNext k) cx_spec_l1Rising (LO_spec_l1Rising_l0 k) ((2, (loopB Tryd.f150 2)) :: []) :=
  LoopsOK.cons (LoopsOK.nil) (E_spec_mNext_ok k).2 (F := F_spec_l1Rising_l0 k) k [] (by kernel_rfl) (by kernel_rfl) (fun K x y => rfl) (fun n x y K => by kernel_rfl)
def F_spec_l1Rising (k : Nat) : FArg (.c (.val (.sl (.int .i64))) (.c (.val (.int .i64)) (.c (.val (.int .i64)) .e))) := fun x K => spec_l1Rising k x.1 x.2.1 x.2.2.1 (fun (r0 : Bool) => K [⟨.bool, r0, true⟩])
theorem s_spec_l1Rising (k : Nat) : SoundF Tryd.prog glob 150 (ftab (.c (.val (.sl (.int .i64))) (.c (.val (.int .i64)) (.c (.val (.int .i64)) .e))) (F_spec_l1Rising k)) :=
  fun_ok (cx := cx_spec_l1Rising) (by kernel_rfl) ⟨types, (E_spec_mNext_ok k).1, (E_spec_mNext_ok k).2, mixed, rfl⟩ Tryd.func150 rfl (lk_spec_l1Rising_l0 k) [0] (by kernel_rfl) (fun x K => by kernel_rfl)
def E_spec_l1Rising (k : Nat) : Tbl := tcons 150 (ftab (.c (.val (.sl (.int .i64))) (.c (.val (.int .i64)) (.c (.val (.int .i64)) .e))) (F_spec_l1Rising k)) (E_spec_mNext k)
theorem E_spec_l1Rising_ok (k : Nat) : SoundE Tryd.prog glob (E_spec_l1Rising k) ∧ NatE (E_spec_l1Rising k) := tab_cons (s_spec_l1Rising k) (E_spec_mNext_ok k)
/-- spec.mEdges -/
def cx_spec_mEdges : Cx := { N := 36, G := glob, C := tys, ad := fun d => false, wk := false }
def sp_spec_mEdges_l0 : LSp where
  cv := []
  ts := [(1, .val (.sl (.int .i64))), (2, .ptr 2), (7, .val (.sl (.int .i64))), (8, .val (.int .i64)), (9, .val (.int .i64))]
  ids := [(2, .box (.st (.pair (.int .i64) (.pair (.int .i64) (.pair (.sl (.int .i64)) (.pair (.sl (.int .i64)) (.sl (.int .i64))))))) (.val (.st (.pair (.int .i64) (.pair (.int .i64) (.pair (.sl (.int .i64)) (.pair (.sl (.int .i64)) (.sl (.int .i64)))))))))]
  tx := fun e => match e with | .exit i => bif Nat.beq i 0 then [1, 2] else [] | .ret => [4] | .normal => []
  ix := fun e => match e with | .exit i => bif Nat.beq i 0 then [2] else [] | .ret => [] | .normal => []
def F_spec_mEdges_l0 (k : Nat) : LArg sp_spec_mEdges_l0 := fun K n x y => spec_mEdges_l0 k (fun (y0 : List Int) (y1 : Int × Int × (List Int) × (List Int) × List Int) => K (.exit 0) (mkSt [(1, .val (.sl (.int .i64)) y0), (2, .ptr 2 1 [])] [(2, some (.box (.st (.pair (.int .i64) (.pair (.int .i64) (.pair (.sl (.int .i64)) (.pair (.sl (.int .i64)) (.sl (.int .i64))))))) (.val (.st (.pair (.int .i64) (.pair (.int .i64) (.pair (.sl (.int .i64)) (.pair (.sl (.int .i64)) (.sl (.int .i64))))))) y1)))])) (fun (y0 : Bool) => K (.ret) (mkSt [(4, .val .bool y0)] [])) n x.1 x.2.2.1 x.2.2.2.1 x.2.2.2.2.1 y.1
def LO_spec_mEdges_l0 (k : Nat) : LTbl := (lcons 2 (ltab sp_spec_mEdges_l0 (F_spec_mEdges_l0 k) k) lnil)
theorem lk_spec_mEdges_l0 (k : Nat) : LoopsOK Tryd.prog glob (E_spec_l1Rising k) cx_spec_mEdges (LO_spec_mEdges_l0 k) ((2, (loopB Tryd.f119 2)) :: []) :=
  LoopsOK.cons (LoopsOK.nil) (E_spec_l1Rising_ok k).2 (F := F_spec_mEdges_l0 k) k [] (by kernel_rfl) (by kernel_rfl) (fun K x y => rfl) (fun n x y K => by kernel_rfl)
def F_spec_mEdges (k : Nat) : FArg (.c (.val (.st (.pair (.int .i64) (.pair (.int .i64) (.pair (.sl (.int .i64)) (.pair (.sl (.int .i64)) (.sl (.int .i64)))))))) (.c (.val (.sl (.int .i64))) .e)) := fun x K => spec_mEdges k x.1 x.2.1 (fun (r0 : Bool) => K [⟨.bool, r0, true⟩])
theorem s_spec_mEdges (k : Nat) : SoundF Tryd.prog glob 119 (ftab (.c (.val (.st (.pair (.int .i64) (.pair (.int .i64) (.pair (.sl (.int .i64)) (.pair (.sl (.int .i64)) (.sl (.int .i64)))))))) (.c (.val (.sl (.int .i64))) .e)) (F_spec_mEdges k)) :=
  fun_ok (cx := cx_spec_mEdges) (by kernel_rfl) ⟨types, (E_spec_l1Rising_ok k).1, (E_spec_l1Rising_ok k).2, mixed, rfl⟩ Tryd.func119 rfl (lk_spec_mEdges_l0 k) [0] (by kernel_rfl) (fun x K => by kernel_rfl)
def E_spec_mEdges (k : Nat) : Tbl := tcons 119 (ftab (.c (.val (.st (.pair (.int .i64) (.pair (.int .i64) (.pair (.sl (.int .i64)) (.pair (.sl (.int .i64)) (.sl (.int .i64)))))))) (.c (.val (.sl (.int .i64))) .e)) (F_spec_mEdges k)) (E_spec_l1Rising k)
theorem E_spec_mEdges_ok (k : Nat) : SoundE Tryd.prog glob (E_spec_mEdges k) ∧ NatE (E_spec_mEdges k) := tab_cons (s_spec_mEdges k) (E_spec_l1Rising_ok k)
/-- spec.mGood -/
def cx_spec_mGood : Cx := { N := 36, G := glob, C := tys, ad := fun d => false, wk := false }
def F_spec_mGood (k : Nat) : FArg (.c (.val (.st (.pair (.int .i64) (.pair (.int .i64) (.pair (.sl (.int .i64)) (.pair (.sl (.int .i64)) (.sl (.int .i64)))))))) .e) := fun x K => spec_mGood k x.1 (fun (r0 : Bool) => K [⟨.bool, r0, true⟩])
theorem s_spec_mGood (k : Nat) : SoundF Tryd.prog glob 69 (ftab (.c (.val (.st (.pair (.int .i64) (.pair (.int .i64) (.pair (.sl (.int .i64)) (.pair (.sl (.int .i64)) (.sl (.int .i64)))))))) .e) (F_spec_mGood k)) :=
  fun_ok (cx := cx_spec_mGood) (by kernel_rfl) ⟨types, (E_spec_mEdges_ok k).1, (E_spec_mEdges_ok k).2, mixed, rfl⟩ Tryd.func69 rfl (LoopsOK.nil) [] (by kernel_rfl) (fun x K => by kernel_rfl)
def E_spec_mGood (k : Nat) : Tbl := tcons 69 (ftab (.c (.val (.st (.pair (.int .i64) (.pair (.int .i64) (.pair (.sl (.int .i64)) (.pair (.sl (.int .i64)) (.sl (.int .i64)))))))) .e) (F_spec_mGood k)) (E_spec_mEdges k)
theorem E_spec_mGood_ok (k : Nat) : SoundE Tryd.prog glob (E_spec_mGood k) ∧ NatE (E_spec_mGood k) := tab_cons (s_spec_mGood k) (E_spec_mEdges_ok k)
/-- spec.l1Put -/
def cx_spec_l1Put : Cx := { N := 48, G := glob, C := tys, ad := fun d => false, wk := true }
def sp_spec_l1Put_l0 : LSp where
  cv := []
  ts := [(0, .val (.sl (.int .i64))), (1, .val (.int .i64)), (5, .val (.int .i64))]
  ids := []
  tx := fun e => match e with | .exit i => bif Nat.beq i 0 then [0, 1, 5] else [] | .ret => [] | .normal => []
  ix := fun e => match e with | .exit i => bif Nat.beq i 0 then [] else [] | .ret => [] | .normal => []
def F_spec_l1Put_l0 (k : Nat) : LArg sp_spec_l1Put_l0 := fun K n x y => spec_l1Put_l0 k (fun (y0 : List Int) (y1 : Int) (y2 : Int) => K (.exit 0) (mkSt [(0, .val (.sl (.int .i64)) y0), (1, .val (.int .i64) y1), (5, .val (.int .i64) y2)] [])) n x.1 x.2.1 x.2.2.1
def LO_spec_l1Put_l0 (k : Nat) : LTbl := (lcons 2 (ltab sp_spec_l1Put_l0 (F_spec_l1Put_l0 k) k) lnil)
theorem lk_spec_l1Put_l0 (k : Nat) : LoopsOK Tryd.prog glob (E_spec_mGood k) cx_spec_l1Put (LO_spec_l1Put_l0 k) ((2, (loopB Tryd.f70 2)) :: []) :=
  LoopsOK.cons (LoopsOK.nil) (E_spec_mGood_ok k).2 (F := F_spec_l1Put_l0 k) k [] (by kernel_rfl) (by kernel_rfl) (fun K x y => rfl) (fun n x y K => by kernel_rfl)
def F_spec_l1Put (k : Nat) : FArg (.c (.val (.sl (.int .i64))) (.c (.val (.int .i64)) .e)) := fun x K => spec_l1Put k x.1 x.2.1 (fun (r0 : List Int) => K [⟨(.sl (.int .i64)), r0, false⟩])
theorem s_spec_l1Put (k : Nat) : SoundF Tryd.prog glob 70 (ftab (.c (.val (.sl (.int .i64))) (.c (.val (.int .i64)) .e)) (F_spec_l1Put k)) :=
  fun_ok (cx := cx_spec_l1Put) (by kernel_rfl) ⟨types, (E_spec_mGood_ok k).1, (E_spec_mGood_ok k).2, mixed, rfl⟩ Tryd.func70 rfl (lk_spec_l1Put_l0 k) [0] (by kernel_rfl) (fun x K => by kernel_rfl)
def E_spec_l1Put (k : Nat) : Tbl := tcons 70 (ftab (.c (.val (.sl (.int .i64))) (.c (.val (.int .i64)) .e)) (F_spec_l1Put k)) (E_spec_mGood k)
theorem E_spec_l1Put_ok (k : Nat) : SoundE Tryd.prog glob (E_spec_l1Put k) ∧ NatE (E_spec_l1Put k) := tab_cons (s_spec_l1Put k) (E_spec_mGood_ok k)
/-- spec.MissingTerrains -/
def cx_spec_MissingTerrains : Cx := { N := 34, G := glob, C := tys, ad := fun d => false, wk := true }
def sp_spec_MissingTerrains_l0 : LSp where
  cv := [(6, 0, (.int .i64))]
  ts := [(2, .ptr 2), (6, .val (.sl (.int .i64))), (18, .val (.sl (.int .i64))), (19, .val (.int .i64)), (20, .val (.int .i64))]
  ids := [(2, .box (.st (.pair (.sl (.st (.pair .str (.pair (.sl (.int .i64)) (.pair (.int .i64) (.pair (.int .i64) .bool)))))) (.pair (.sl (.st (.pair .str (.pair (.int .i64) (.pair (.int .i64) (.pair (.int .i64) (.pair .bool (.int .i64)))))))) (.pair (.int .i64) (.pair (.int .i64) (.pair (.int .i64) (.pair (.int .i64) (.int .i64)))))))) (.val (.st (.pair (.sl (.st (.pair .str (.pair (.sl (.int .i64)) (.pair (.int .i64) (.pair (.int .i64) .bool)))))) (.pair (.sl (.st (.pair .str (.pair (.int .i64) (.pair (.int .i64) (.pair (.int .i64) (.pair .bool (.int .i64)))))))) (.pair (.int .i64) (.pair (.int .i64) (.pair (.int .i64) (.pair (.int .i64) (.int .i64))))))))))]
  tx := fun e => match e with | .exit i => bif Nat.beq i 0 then [6] else [] | .ret => [] | .normal => []
  ix := fun e => match e with | .exit i => bif Nat.beq i 0 then [] else [] | .ret => [] | .normal => []
def F_spec_MissingTerrains_l0 (k : Nat) : LArg sp_spec_MissingTerrains_l0 := fun K n x y => spec_MissingTerrains_l0 k (fun (y0 : List Int) => K (.exit 0) (mkSt [(6, .val (.sl (.int .i64)) y0)] [])) n x.2.1 x.2.2.1 x.2.2.2.1 x.2.2.2.2.1 y.1
def LO_spec_MissingTerrains_l0 (k : Nat) : LTbl := (lcons 5 (ltab sp_spec_MissingTerrains_l0 (F_spec_MissingTerrains_l0 k) k) lnil)
theorem lk_spec_MissingTerrains_l0 (k : Nat) : LoopsOK Tryd.prog glob (E_spec_l1Put k) cx_spec_MissingTerrains (LO_spec_MissingTerrains_l0 k) ((5, (loopB Tryd.f23 5)) :: []) :=
  LoopsOK.cons (LoopsOK.nil) (E_spec_l1Put_ok k).2 (F := F_spec_MissingTerrains_l0 k) k [] (by kernel_rfl) (by kernel_rfl) (fun K x y => rfl) (fun n x y K => by kernel_rfl)
def F_spec_MissingTerrains (k : Nat) : FArg (.c (.val (.st (.pair (.sl (.st (.pair .str (.pair (.sl (.int .i64)) (.pair (.int .i64) (.pair (.int .i64) .bool)))))) (.pair (.sl (.st (.pair .str (.pair (.int .i64) (.pair (.int .i64) (.pair (.int .i64) (.pair .bool (.int .i64)))))))) (.pair (.int .i64) (.pair (.int .i64) (.pair (.int .i64) (.pair (.int .i64) (.int .i64))))))))) (.c (.val (.st (.pair (.int .i64) (.pair (.int .i64) (.pair (.sl (.int .i64)) (.pair (.sl (.int .i64)) (.sl (.int .i64)))))))) .e)) := fun x K => spec_MissingTerrains k x.1 x.2.1 (fun (r0 : List Int) (r1 : Bool) => K [⟨(.sl (.int .i64)), r0, false⟩, ⟨.bool, r1, true⟩])
theorem s_spec_MissingTerrains (k : Nat) : SoundF Tryd.prog glob 23 (ftab (.c (.val (.st (.pair (.sl (.st (.pair .str (.pair (.sl (.int .i64)) (.pair (.int .i64) (.pair (.int .i64) .bool)))))) (.pair (.sl (.st (.pair .str (.pair (.int .i64) (.pair (.int .i64) (.pair (.int .i64) (.pair .bool (.int .i64)))))))) (.pair (.int .i64) (.pair (.int .i64) (.pair (.int .i64) (.pair (.int .i64) (.int .i64))))))))) (.c (.val (.st (.pair (.int .i64) (.pair (.int .i64) (.pair (.sl (.int .i64)) (.pair (.sl (.int .i64)) (.sl (.int .i64)))))))) .e)) (F_spec_MissingTerrains k)) :=
  fun_ok (cx := cx_spec_MissingTerrains) (by kernel_rfl) ⟨types, (E_spec_l1Put_ok k).1, (E_spec_l1Put_ok k).2, mixed, rfl⟩ Tryd.func23 rfl (lk_spec_MissingTerrains_l0 k) [0] (by kernel_rfl) (fun x K => by kernel_rfl)
def E_spec_MissingTerrains (k : Nat) : Tbl := tcons 23 (ftab (.c (.val (.st (.pair (.sl (.st (.pair .str (.pair (.sl (.int .i64)) (.pair (.int .i64) (.pair (.int .i64) .bool)))))) (.pair (.sl (.st (.pair .str (.pair (.int .i64) (.pair (.int .i64) (.pair (.int .i64) (.pair .bool (.int .i64)))))))) (.pair (.int .i64) (.pair (.int .i64) (.pair (.int .i64) (.pair (.int .i64) (.int .i64))))))))) (.c (.val (.st (.pair (.int .i64) (.pair (.int .i64) (.pair (.sl (.int .i64)) (.pair (.sl (.int .i64)) (.sl (.int .i64)))))))) .e)) (F_spec_MissingTerrains k)) (E_spec_l1Put k)
theorem E_spec_MissingTerrains_ok (k : Nat) : SoundE Tryd.prog glob (E_spec_MissingTerrains k) ∧ NatE (E_spec_MissingTerrains k) := tab_cons (s_spec_MissingTerrains k) (E_spec_l1Put_ok k)
/-- impl.inRange -/
def cx_impl_inRange : Cx := { N := 15, G := glob, C := tys, ad := fun d => false, wk := false, dp := true }
def F_impl_inRange (k : Nat) : FArg (.c (.val (.int .i64)) (.c (.val (.int .i64)) (.c (.val (.int .i64)) .e))) := fun x K => impl_inRange x.1 x.2.1 x.2.2.1 (fun (r0 : Bool) => K [⟨.bool, r0, true⟩])
theorem s_impl_inRange (k : Nat) : SoundF Tryd.prog glob 103 (ftab (.c (.val (.int .i64)) (.c (.val (.int .i64)) (.c (.val (.int .i64)) .e))) (F_impl_inRange k)) :=
  fun_ok (cx := cx_impl_inRange) (by kernel_rfl) ⟨types, (E_spec_MissingTerrains_ok k).1, (E_spec_MissingTerrains_ok k).2, mixed, rfl⟩ Tryd.func103 rfl (LoopsOK.nil) [] (by kernel_rfl) (fun x K => by kernel_rfl)
def E_impl_inRange (k : Nat) : Tbl := tcons 103 (ftab (.c (.val (.int .i64)) (.c (.val (.int .i64)) (.c (.val (.int .i64)) .e))) (F_impl_inRange k)) (E_spec_MissingTerrains k)
theorem E_impl_inRange_ok (k : Nat) : SoundE Tryd.prog glob (E_impl_inRange k) ∧ NatE (E_impl_inRange k) := tab_cons (s_impl_inRange k) (E_spec_MissingTerrains_ok k)
/-- impl.isName -/
def cx_impl_isName : Cx := { N := 23, G := glob, C := tys, ad := fun d => Nat.beq d 22, wk := false, dp := true }
def sp_impl_isName_l0 : LSp where
  cv := []
  ts := [(0, .val .str), (3, .val (.int .i64))]
  ids := []
  tx := fun e => match e with | .exit i => bif Nat.beq i 0 then [0] else [] | .ret => [2] | .normal => []
  ix := fun e => match e with | .exit i => bif Nat.beq i 0 then [] else [] | .ret => [] | .normal => []
def F_impl_isName_l0 (k : Nat) : LArg sp_impl_isName_l0 := fun K n x y => impl_isName_l0 k (fun (y0 : ByteArray) => K (.exit 0) (mkSt [(0, .val .str y0)] [])) (fun (y0 : Bool) => K (.ret) (mkSt [(2, .val .bool y0)] [])) n x.1 x.2.1
def LO_impl_isName_l0 (k : Nat) : LTbl := (lcons 2 (ltab sp_impl_isName_l0 (F_impl_isName_l0 k) k) lnil)
theorem lk_impl_isName_l0 (k : Nat) : LoopsOK Tryd.prog glob (E_impl_inRange k) cx_impl_isName (LO_impl_isName_l0 k) ((2, (loopB Tryd.f143 2)) :: []) :=
  LoopsOK.cons (LoopsOK.nil) (E_impl_inRange_ok k).2 (F := F_impl_isName_l0 k) k [] (by kernel_rfl) (by kernel_rfl) (fun K x y => rfl) (fun n x y K => by kernel_rfl)
def F_impl_isName (k : Nat) : FArg (.c (.val .str) .e) := fun x K => impl_isName k x.1 (fun (r0 : Bool) => K [⟨.bool, r0, true⟩])
theorem s_impl_isName (k : Nat) : SoundF Tryd.prog glob 143 (ftab (.c (.val .str) .e) (F_impl_isName k)) :=
  fun_ok (cx := cx_impl_isName) (by kernel_rfl) ⟨types, (E_impl_inRange_ok k).1, (E_impl_inRange_ok k).2, mixed, rfl⟩ Tryd.func143 rfl (lk_impl_isName_l0 k) [0] (by kernel_rfl) (fun x K => by kernel_rfl)
def E_impl_isName (k : Nat) : Tbl := tcons 143 (ftab (.c (.val .str) .e) (F_impl_isName k)) (E_impl_inRange k)
theorem E_impl_isName_ok (k : Nat) : SoundE Tryd.prog glob (E_impl_isName k) ∧ NatE (E_impl_isName k) := tab_cons (s_impl_isName k) (E_impl_inRange_ok k)
/-- impl.goodTerrain$1 -/
def cx_impl_goodTerrain_1 : Cx := { N := 6, G := glob, C := tys, ad := fun d => Nat.beq d 4, wk := false, dp := true }
def F_impl_goodTerrain_1 (k : Nat) : FArg (.c (.val (.int .i64)) .e) := fun x K => impl_goodTerrain_1 x.1 (fun (r0 : Bool) => K [⟨.bool, r0, true⟩])
theorem s_impl_goodTerrain_1 (k : Nat) : SoundF Tryd.prog glob 144 (ftab (.c (.val (.int .i64)) .e) (F_impl_goodTerrain_1 k)) :=
  fun_ok (cx := cx_impl_goodTerrain_1) (by kernel_rfl) ⟨types, (E_impl_isName_ok k).1, (E_impl_isName_ok k).2, mixed, rfl⟩ Tryd.func144 rfl (LoopsOK.nil) [] (by kernel_rfl) (fun x K => by kernel_rfl)
def E_impl_goodTerrain_1 (k : Nat) : Tbl := tcons 144 (ftab (.c (.val (.int .i64)) .e) (F_impl_goodTerrain_1 k)) (E_impl_isName k)
theorem E_impl_goodTerrain_1_ok (k : Nat) : SoundE Tryd.prog glob (E_impl_goodTerrain_1 k) ∧ NatE (E_impl_goodTerrain_1 k) := tab_cons (s_impl_goodTerrain_1 k) (E_impl_isName_ok k)
/-- slices.IndexFunc[[]int,int] -/
def cx_slices_IndexFunc_Sint_int__impl_goodTerrain_1 : Cx := { N := 19, G := glob, C := tys, ad := fun d => false, wk := false }
def sp_slices_IndexFunc_Sint_int__impl_goodTerrain_1_l0 : LSp where
  cv := []
  ts := [(0, .val (.sl (.int .i64))), (1, .fn 144 .e), (7, .val (.int .i64)), (8, .val (.int .i64))]
  ids := []
  tx := fun e => match e with | .exit i => bif Nat.beq i 0 then [] else [] | .ret => [4] | .normal => []
  ix := fun e => match e with | .exit i => bif Nat.beq i 0 then [] else [] | .ret => [] | .normal => []
def F_slices_IndexFunc_Sint_int__impl_goodTerrain_1_l0 (k : Nat) : LArg sp_slices_IndexFunc_Sint_int__impl_goodTerrain_1_l0 := fun K n x y => slices_IndexFunc_Sint_int__impl_goodTerrain_1_l0 k (K (.exit 0) (mkSt [] [])) (fun (y0 : Int) => K (.ret) (mkSt [(4, .val (.int .i64) y0)] [])) n x.1 x.2.2.1 x.2.2.2.1
def LO_slices_IndexFunc_Sint_int__impl_goodTerrain_1_l0 (k : Nat) : LTbl := (lcons 2 (ltab sp_slices_IndexFunc_Sint_int__impl_goodTerrain_1_l0 (F_slices_IndexFunc_Sint_int__impl_goodTerrain_1_l0 k) k) lnil)
theorem lk_slices_IndexFunc_Sint_int__impl_goodTerrain_1_l0 (k : Nat) : LoopsOK Tryd.prog glob (E_impl_goodTerrain_1 k) cx_slices_IndexFunc_Sint_int__impl_goodTerrain_1 (LO_slices_IndexFunc_Sint_int__impl_goodTerrain_1_l0 k) ((2, (loopB Tryd.f110 2)) :: []) :=
  LoopsOK.cons (LoopsOK.nil) (E_impl_goodTerrain_1_ok k).2 (F := F_slices_IndexFunc_Sint_int__impl_goodTerrain_1_l0 k) k [] (by kernel_rfl) (by kernel_rfl) (fun K x y => rfl) (fun n x y K => by kernel_rfl)
def F_slices_IndexFunc_Sint_int__impl_goodTerrain_1 (k : Nat) : FArg (.c (.val (.sl (.int .i64))) (.c (.fn 144 .e) .e)) := fun x K => slices_IndexFunc_Sint_int__impl_goodTerrain_1 k x.1 (fun (r0 : Int) => K [⟨(.int .i64), r0, true⟩])
theorem s_slices_IndexFunc_Sint_int__impl_goodTerrain_1 (k : Nat) : SoundF Tryd.prog glob 110 (ftab (.c (.val (.sl (.int .i64))) (.c (.fn 144 .e) .e)) (F_slices_IndexFunc_Sint_int__impl_goodTerrain_1 k)) :=
  fun_ok (cx := cx_slices_IndexFunc_Sint_int__impl_goodTerrain_1) (by kernel_rfl) ⟨types, (E_impl_goodTerrain_1_ok k).1, (E_impl_goodTerrain_1_ok k).2, mixed, rfl⟩ Tryd.func110 rfl (lk_slices_IndexFunc_Sint_int__impl_goodTerrain_1_l0 k) [0] (by kernel_rfl) (fun x K => by kernel_rfl)
def E_slices_IndexFunc_Sint_int__impl_goodTerrain_1 (k : Nat) : Tbl := tcons 110 (ftab (.c (.val (.sl (.int .i64))) (.c (.fn 144 .e) .e)) (F_slices_IndexFunc_Sint_int__impl_goodTerrain_1 k)) (E_impl_goodTerrain_1 k)
theorem E_slices_IndexFunc_Sint_int__impl_goodTerrain_1_ok (k : Nat) : SoundE Tryd.prog glob (E_slices_IndexFunc_Sint_int__impl_goodTerrain_1 k) ∧ NatE (E_slices_IndexFunc_Sint_int__impl_goodTerrain_1 k) := tab_cons (s_slices_IndexFunc_Sint_int__impl_goodTerrain_1 k) (E_impl_goodTerrain_1_ok k)
/-- slices.ContainsFunc[[]int,int] -/
def cx_slices_ContainsFunc_Sint_int__impl_goodTerrain_1 : Cx := { N := 9, G := glob, C := tys, ad := fun d => false, wk := false }
def F_slices_ContainsFunc_Sint_int__impl_goodTerrain_1 (k : Nat) : FArg (.c (.val (.sl (.int .i64))) (.c (.fn 144 .e) .e)) := fun x K => slices_ContainsFunc_Sint_int__impl_goodTerrain_1 k x.1 (fun (r0 : Bool) => K [⟨.bool, r0, true⟩])
theorem s_slices_ContainsFunc_Sint_int__impl_goodTerrain_1 (k : Nat) : SoundF Tryd.prog glob 57 (ftab (.c (.val (.sl (.int .i64))) (.c (.fn 144 .e) .e)) (F_slices_ContainsFunc_Sint_int__impl_goodTerrain_1 k)) :=
  fun_ok (cx := cx_slices_ContainsFunc_Sint_int__impl_goodTerrain_1) (by kernel_rfl) ⟨types, (E_slices_IndexFunc_Sint_int__impl_goodTerrain_1_ok k).1, (E_slices_IndexFunc_Sint_int__impl_goodTerrain_1_ok k).2, mixed, rfl⟩ Tryd.func57 rfl (LoopsOK.nil) [] (by kernel_rfl) (fun x K => by kernel_rfl)
def E_slices_ContainsFunc_Sint_int__impl_goodTerrain_1 (k : Nat) : Tbl := tcons 57 (ftab (.c (.val (.sl (.int .i64))) (.c (.fn 144 .e) .e)) (F_slices_ContainsFunc_Sint_int__impl_goodTerrain_1 k)) (E_slices_IndexFunc_Sint_int__impl_goodTerrain_1 k)
theorem E_slices_ContainsFunc_Sint_int__impl_goodTerrain_1_ok (k : Nat) : SoundE Tryd.prog glob (E_slices_ContainsFunc_Sint_int__impl_goodTerrain_1 k) ∧ NatE (E_slices_ContainsFunc_Sint_int__impl_goodTerrain_1 k) := tab_cons (s_slices_ContainsFunc_Sint_int__impl_goodTerrain_1 k) (E_slices_IndexFunc_Sint_int__impl_goodTerrain_1_ok k)
/-- impl.goodTerrain -/
def cx_impl_goodTerrain : Cx := { N := 32, G := glob, C := tys, ad := fun d => Nat.beq d 7 || Nat.beq d 19 || Nat.beq d 25 || Nat.beq d 30, wk := false, dp := true }
def F_impl_goodTerrain (k : Nat) : FArg (.c (.val (.st (.pair .str (.pair (.sl (.int .i64)) (.pair (.int .i64) (.pair (.int .i64) .bool)))))) (.c (.val (.int .i64)) .e)) := fun x K => impl_goodTerrain k x.1 x.2.1 (fun (r0 : Bool) => K [⟨.bool, r0, true⟩])
theorem s_impl_goodTerrain (k : Nat) : SoundF Tryd.prog glob 104 (ftab (.c (.val (.st (.pair .str (.pair (.sl (.int .i64)) (.pair (.int .i64) (.pair (.int .i64) .bool)))))) (.c (.val (.int .i64)) .e)) (F_impl_goodTerrain k)) :=
  fun_ok (cx := cx_impl_goodTerrain) (by kernel_rfl) ⟨types, (E_slices_ContainsFunc_Sint_int__impl_goodTerrain_1_ok k).1, (E_slices_ContainsFunc_Sint_int__impl_goodTerrain_1_ok k).2, mixed, rfl⟩ Tryd.func104 rfl (LoopsOK.nil) [] (by kernel_rfl) (fun x K => by kernel_rfl)
def E_impl_goodTerrain (k : Nat) : Tbl := tcons 104 (ftab (.c (.val (.st (.pair .str (.pair (.sl (.int .i64)) (.pair (.int .i64) (.pair (.int .i64) .bool)))))) (.c (.val (.int .i64)) .e)) (F_impl_goodTerrain k)) (E_slices_ContainsFunc_Sint_int__impl_goodTerrain_1 k)
theorem E_impl_goodTerrain_ok (k : Nat) : SoundE Tryd.prog glob (E_impl_goodTerrain k) ∧ NatE (E_impl_goodTerrain k) := tab_cons (s_impl_goodTerrain k) (E_slices_ContainsFunc_Sint_int__impl_goodTerrain_1_ok k)
/-- impl.terrainIndex$1 -/
def cx_impl_terrainIndex_1 : Cx := { N := 8, G := glob, C := tys, ad := fun d => false, wk := false, dp := true }
def F_impl_terrainIndex_1 (k : Nat) : FArg (.c (.val (.st (.pair .str (.pair (.sl (.int .i64)) (.pair (.int .i64) (.pair (.int .i64) .bool)))))) (.c (.pval .str) .e)) := fun x K => impl_terrainIndex_1 x.1 x.2.1 (fun (r0 : Bool) => K [⟨.bool, r0, true⟩])
theorem s_impl_terrainIndex_1 (k : Nat) : SoundF Tryd.prog glob 146 (ftab (.c (.val (.st (.pair .str (.pair (.sl (.int .i64)) (.pair (.int .i64) (.pair (.int .i64) .bool)))))) (.c (.pval .str) .e)) (F_impl_terrainIndex_1 k)) :=
  fun_ok (cx := cx_impl_terrainIndex_1) (by kernel_rfl) ⟨types, (E_impl_goodTerrain_ok k).1, (E_impl_goodTerrain_ok k).2, mixed, rfl⟩ Tryd.func146 rfl (LoopsOK.nil) [] (by kernel_rfl) (fun x K => by kernel_rfl)
def E_impl_terrainIndex_1 (k : Nat) : Tbl := tcons 146 (ftab (.c (.val (.st (.pair .str (.pair (.sl (.int .i64)) (.pair (.int .i64) (.pair (.int .i64) .bool)))))) (.c (.pval .str) .e)) (F_impl_terrainIndex_1 k)) (E_impl_goodTerrain k)
theorem E_impl_terrainIndex_1_ok (k : Nat) : SoundE Tryd.prog glob (E_impl_terrainIndex_1 k) ∧ NatE (E_impl_terrainIndex_1 k) := tab_cons (s_impl_terrainIndex_1 k) (E_impl_goodTerrain_ok k)
/-- slices.IndexFunc[[]impl.Terrain,impl.Terrain] -/
def cx_slices_IndexFunc_Simpl_Terrain_impl_Terrain__impl_terrainIndex_1 : Cx := { N := 19, G := glob, C := tys, ad := fun d => false, wk := false, dp := true }
def sp_slices_IndexFunc_Simpl_Terrain_impl_Terrain__impl_terrainIndex_1_l0 : LSp where
  cv := []
  ts := [(0, .val (.sl (.st (.pair .str (.pair (.sl (.int .i64)) (.pair (.int .i64) (.pair (.int .i64) .bool))))))), (1, .fn 146 (.c (.pval .str) .e)), (7, .val (.int .i64)), (8, .val (.int .i64))]
  ids := []
  tx := fun e => match e with | .exit i => bif Nat.beq i 0 then [] else [] | .ret => [4] | .normal => []
  ix := fun e => match e with | .exit i => bif Nat.beq i 0 then [] else [] | .ret => [] | .normal => []
def F_slices_IndexFunc_Simpl_Terrain_impl_Terrain__impl_terrainIndex_1_l0 (k : Nat) : LArg sp_slices_IndexFunc_Simpl_Terrain_impl_Terrain__impl_terrainIndex_1_l0 := fun K n x y => slices_IndexFunc_Simpl_Terrain_impl_Terrain__impl_terrainIndex_1_l0 k (K (.exit 0) (mkSt [] [])) (fun (y0 : Int) => K (.ret) (mkSt [(4, .val (.int .i64) y0)] [])) n x.1 x.2.1.1 x.2.2.1 x.2.2.2.1
def LO_slices_IndexFunc_Simpl_Terrain_impl_Terrain__impl_terrainIndex_1_l0 (k : Nat) : LTbl := (lcons 2 (ltab sp_slices_IndexFunc_Simpl_Terrain_impl_Terrain__impl_terrainIndex_1_l0 (F_slices_IndexFunc_Simpl_Terrain_impl_Terrain__impl_terrainIndex_1_l0 k) k) lnil)
theorem lk_slices_IndexFunc_Simpl_Terrain_impl_Terrain__impl_terrainIndex_1_l0 (k : Nat) : LoopsOK Tryd.prog glob (E_impl_terrainIndex_1 k) cx_slices_IndexFunc_Simpl_Terrain_impl_Terrain__impl_terrainIndex_1 (LO_slices_IndexFunc_Simpl_Terrain_impl_Terrain__impl_terrainIndex_1_l0 k) ((2, (loopB Tryd.f145 2)) :: []) :=
  LoopsOK.cons (LoopsOK.nil) (E_impl_terrainIndex_1_ok k).2 (F := F_slices_IndexFunc_Simpl_Terrain_impl_Terrain__impl_terrainIndex_1_l0 k) k [] (by kernel_rfl) (by kernel_rfl) (fun K x y => rfl) (fun n x y K => by kernel_rfl)
def F_slices_IndexFunc_Simpl_Terrain_impl_Terrain__impl_terrainIndex_1 (k : Nat) : FArg (.c (.val (.sl (.st (.pair .str (.pair (.sl (.int .i64)) (.pair (.int .i64) (.pair (.int .i64) .bool))))))) (.c (.fn 146 (.c (.pval .str) .e)) .e)) := fun x K => slices_IndexFunc_Simpl_Terrain_impl_Terrain__impl_terrainIndex_1 k x.1 x.2.1.1 (fun (r0 : Int) => K [⟨(.int .i64), r0, true⟩])
theorem s_slices_IndexFunc_Simpl_Terrain_impl_Terrain__impl_terrainIndex_1 (k : Nat) : SoundF Tryd.prog glob 145 (ftab (.c (.val (.sl (.st (.pair .str (.pair (.sl (.int .i64)) (.pair (.int .i64) (.pair (.int .i64) .bool))))))) (.c (.fn 146 (.c (.pval .str) .e)) .e)) (F_slices_IndexFunc_Simpl_Terrain_impl_Terrain__impl_terrainIndex_1 k)) :=
  fun_ok (cx := cx_slices_IndexFunc_Simpl_Terrain_impl_Terrain__impl_terrainIndex_1) (by kernel_rfl) ⟨types, (E_impl_terrainIndex_1_ok k).1, (E_impl_terrainIndex_1_ok k).2, mixed, rfl⟩ Tryd.func145 rfl (lk_slices_IndexFunc_Simpl_Terrain_impl_Terrain__impl_terrainIndex_1_l0 k) [0] (by kernel_rfl) (fun x K => by kernel_rfl)
def E_slices_IndexFunc_Simpl_Terrain_impl_Terrain__impl_terrainIndex_1 (k : Nat) : Tbl := tcons 145 (ftab (.c (.val (.sl (.st (.pair .str (.pair (.sl (.int .i64)) (.pair (.int .i64) (.pair (.int .i64) .bool))))))) (.c (.fn 146 (.c (.pval .str) .e)) .e)) (F_slices_IndexFunc_Simpl_Terrain_impl_Terrain__impl_terrainIndex_1 k)) (E_impl_terrainIndex_1 k)
theorem E_slices_IndexFunc_Simpl_Terrain_impl_Terrain__impl_terrainIndex_1_ok (k : Nat) : SoundE Tryd.prog glob (E_slices_IndexFunc_Simpl_Terrain_impl_Terrain__impl_terrainIndex_1 k) ∧ NatE (E_slices_IndexFunc_Simpl_Terrain_impl_Terrain__impl_terrainIndex_1 k) := tab_cons (s_slices_IndexFunc_Simpl_Terrain_impl_Terrain__impl_terrainIndex_1 k) (E_impl_terrainIndex_1_ok k)
/-- impl.terrainIndex -/
def cx_impl_terrainIndex : Cx := { N := 8, G := glob, C := tys, ad := fun d => Nat.beq d 7, wk := false, dp := true }
def F_impl_terrainIndex (k : Nat) : FArg (.c (.val (.sl (.st (.pair .str (.pair (.sl (.int .i64)) (.pair (.int .i64) (.pair (.int .i64) .bool))))))) (.c (.val .str) .e)) := fun x K => impl_terrainIndex k x.1 x.2.1 (fun (r0 : Int) => K [⟨(.int .i64), r0, true⟩])
theorem s_impl_terrainIndex (k : Nat) : SoundF Tryd.prog glob 105 (ftab (.c (.val (.sl (.st (.pair .str (.pair (.sl (.int .i64)) (.pair (.int .i64) (.pair (.int .i64) .bool))))))) (.c (.val .str) .e)) (F_impl_terrainIndex k)) :=
  fun_ok (cx := cx_impl_terrainIndex) (by kernel_rfl) ⟨types, (E_slices_IndexFunc_Simpl_Terrain_impl_Terrain__impl_terrainIndex_1_ok k).1, (E_slices_IndexFunc_Simpl_Terrain_impl_Terrain__impl_terrainIndex_1_ok k).2, mixed, rfl⟩ Tryd.func105 rfl (LoopsOK.nil) [] (by kernel_rfl) (fun x K => by kernel_rfl)
def E_impl_terrainIndex (k : Nat) : Tbl := tcons 105 (ftab (.c (.val (.sl (.st (.pair .str (.pair (.sl (.int .i64)) (.pair (.int .i64) (.pair (.int .i64) .bool))))))) (.c (.val .str) .e)) (F_impl_terrainIndex k)) (E_slices_IndexFunc_Simpl_Terrain_impl_Terrain__impl_terrainIndex_1 k)
theorem E_impl_terrainIndex_ok (k : Nat) : SoundE Tryd.prog glob (E_impl_terrainIndex k) ∧ NatE (E_impl_terrainIndex k) := tab_cons (s_impl_terrainIndex k) (E_slices_IndexFunc_Simpl_Terrain_impl_Terrain__impl_terrainIndex_1_ok k)
/-- impl.goodKind -/
def cx_impl_goodKind : Cx := { N := 26, G := glob, C := tys, ad := fun d => Nat.beq d 5 || Nat.beq d 9 || Nat.beq d 14 || Nat.beq d 19 || Nat.beq d 24, wk := false, dp := true }
def F_impl_goodKind (k : Nat) : FArg (.c (.val (.st (.pair .str (.pair (.int .i64) (.pair (.int .i64) (.pair (.int .i64) (.pair .bool (.int .i64)))))))) .e) := fun x K => impl_goodKind k x.1 (fun (r0 : Bool) => K [⟨.bool, r0, true⟩])
theorem s_impl_goodKind (k : Nat) : SoundF Tryd.prog glob 106 (ftab (.c (.val (.st (.pair .str (.pair (.int .i64) (.pair (.int .i64) (.pair (.int .i64) (.pair .bool (.int .i64)))))))) .e) (F_impl_goodKind k)) :=
  fun_ok (cx := cx_impl_goodKind) (by kernel_rfl) ⟨types, (E_impl_terrainIndex_ok k).1, (E_impl_terrainIndex_ok k).2, mixed, rfl⟩ Tryd.func106 rfl (LoopsOK.nil) [] (by kernel_rfl) (fun x K => by kernel_rfl)
def E_impl_goodKind (k : Nat) : Tbl := tcons 106 (ftab (.c (.val (.st (.pair .str (.pair (.int .i64) (.pair (.int .i64) (.pair (.int .i64) (.pair .bool (.int .i64)))))))) .e) (F_impl_goodKind k)) (E_impl_terrainIndex k)
theorem E_impl_goodKind_ok (k : Nat) : SoundE Tryd.prog glob (E_impl_goodKind k) ∧ NatE (E_impl_goodKind k) := tab_cons (s_impl_goodKind k) (E_impl_terrainIndex_ok k)
/-- impl.kindIndex$1 -/
def cx_impl_kindIndex_1 : Cx := { N := 8, G := glob, C := tys, ad := fun d => false, wk := false, dp := true }
def F_impl_kindIndex_1 (k : Nat) : FArg (.c (.val (.st (.pair .str (.pair (.int .i64) (.pair (.int .i64) (.pair (.int .i64) (.pair .bool (.int .i64)))))))) (.c (.pval .str) .e)) := fun x K => impl_kindIndex_1 x.1 x.2.1 (fun (r0 : Bool) => K [⟨.bool, r0, true⟩])
theorem s_impl_kindIndex_1 (k : Nat) : SoundF Tryd.prog glob 148 (ftab (.c (.val (.st (.pair .str (.pair (.int .i64) (.pair (.int .i64) (.pair (.int .i64) (.pair .bool (.int .i64)))))))) (.c (.pval .str) .e)) (F_impl_kindIndex_1 k)) :=
  fun_ok (cx := cx_impl_kindIndex_1) (by kernel_rfl) ⟨types, (E_impl_goodKind_ok k).1, (E_impl_goodKind_ok k).2, mixed, rfl⟩ Tryd.func148 rfl (LoopsOK.nil) [] (by kernel_rfl) (fun x K => by kernel_rfl)
def E_impl_kindIndex_1 (k : Nat) : Tbl := tcons 148 (ftab (.c (.val (.st (.pair .str (.pair (.int .i64) (.pair (.int .i64) (.pair (.int .i64) (.pair .bool (.int .i64)))))))) (.c (.pval .str) .e)) (F_impl_kindIndex_1 k)) (E_impl_goodKind k)
theorem E_impl_kindIndex_1_ok (k : Nat) : SoundE Tryd.prog glob (E_impl_kindIndex_1 k) ∧ NatE (E_impl_kindIndex_1 k) := tab_cons (s_impl_kindIndex_1 k) (E_impl_goodKind_ok k)
/-- slices.IndexFunc[[]impl.Kind,impl.Kind] -/
def cx_slices_IndexFunc_Simpl_Kind_impl_Kind__impl_kindIndex_1 : Cx := { N := 19, G := glob, C := tys, ad := fun d => false, wk := false, dp := true }
def sp_slices_IndexFunc_Simpl_Kind_impl_Kind__impl_kindIndex_1_l0 : LSp where
  cv := []
  ts := [(0, .val (.sl (.st (.pair .str (.pair (.int .i64) (.pair (.int .i64) (.pair (.int .i64) (.pair .bool (.int .i64))))))))), (1, .fn 148 (.c (.pval .str) .e)), (7, .val (.int .i64)), (8, .val (.int .i64))]
  ids := []
  tx := fun e => match e with | .exit i => bif Nat.beq i 0 then [] else [] | .ret => [4] | .normal => []
  ix := fun e => match e with | .exit i => bif Nat.beq i 0 then [] else [] | .ret => [] | .normal => []
def F_slices_IndexFunc_Simpl_Kind_impl_Kind__impl_kindIndex_1_l0 (k : Nat) : LArg sp_slices_IndexFunc_Simpl_Kind_impl_Kind__impl_kindIndex_1_l0 := fun K n x y => slices_IndexFunc_Simpl_Kind_impl_Kind__impl_kindIndex_1_l0 k (K (.exit 0) (mkSt [] [])) (fun (y0 : Int) => K (.ret) (mkSt [(4, .val (.int .i64) y0)] [])) n x.1 x.2.1.1 x.2.2.1 x.2.2.2.1
def LO_slices_IndexFunc_Simpl_Kind_impl_Kind__impl_kindIndex_1_l0 (k : Nat) : LTbl := (lcons 2 (ltab sp_slices_IndexFunc_Simpl_Kind_impl_Kind__impl_kindIndex_1_l0 (F_slices_IndexFunc_Simpl_Kind_impl_Kind__impl_kindIndex_1_l0 k) k) lnil)
theorem lk_slices_IndexFunc_Simpl_Kind_impl_Kind__impl_kindIndex_1_l0 (k : Nat) : LoopsOK Tryd.prog glob (E_impl_kindIndex_1 k) cx_slices_IndexFunc_Simpl_Kind_impl_Kind__impl_kindIndex_1 (LO_slices_IndexFunc_Simpl_Kind_impl_Kind__impl_kindIndex_1_l0 k) ((2, (loopB Tryd.f147 2)) :: []) :=
  LoopsOK.cons (LoopsOK.nil) (E_impl_kindIndex_1_ok k).2 (F := F_slices_IndexFunc_Simpl_Kind_impl_Kind__impl_kindIndex_1_l0 k) k [] (by kernel_rfl) (by kernel_rfl) (fun K x y => rfl) (fun n x y K => by kernel_rfl)
def F_slices_IndexFunc_Simpl_Kind_impl_Kind__impl_kindIndex_1 (k : Nat) : FArg (.c (.val (.sl (.st (.pair .str (.pair (.int .i64) (.pair (.int .i64) (.pair (.int .i64) (.pair .bool (.int .i64))))))))) (.c (.fn 148 (.c (.pval .str) .e)) .e)) := fun x K => slices_IndexFunc_Simpl_Kind_impl_Kind__impl_kindIndex_1 k x.1 x.2.1.1 (fun (r0 : Int) => K [⟨(.int .i64), r0, true⟩])
theorem s_slices_IndexFunc_Simpl_Kind_impl_Kind__impl_kindIndex_1 (k : Nat) : SoundF Tryd.prog glob 147 (ftab (.c (.val (.sl (.st (.pair .str (.pair (.int .i64) (.pair (.int .i64) (.pair (.int .i64) (.pair .bool (.int .i64))))))))) (.c (.fn 148 (.c (.pval .str) .e)) .e)) (F_slices_IndexFunc_Simpl_Kind_impl_Kind__impl_kindIndex_1 k)) :=
  fun_ok (cx := cx_slices_IndexFunc_Simpl_Kind_impl_Kind__impl_kindIndex_1) (by kernel_rfl) ⟨types, (E_impl_kindIndex_1_ok k).1, (E_impl_kindIndex_1_ok k).2, mixed, rfl⟩ Tryd.func147 rfl (lk_slices_IndexFunc_Simpl_Kind_impl_Kind__impl_kindIndex_1_l0 k) [0] (by kernel_rfl) (fun x K => by kernel_rfl)
def E_slices_IndexFunc_Simpl_Kind_impl_Kind__impl_kindIndex_1 (k : Nat) : Tbl := tcons 147 (ftab (.c (.val (.sl (.st (.pair .str (.pair (.int .i64) (.pair (.int .i64) (.pair (.int .i64) (.pair .bool (.int .i64))))))))) (.c (.fn 148 (.c (.pval .str) .e)) .e)) (F_slices_IndexFunc_Simpl_Kind_impl_Kind__impl_kindIndex_1 k)) (E_impl_kindIndex_1 k)
theorem E_slices_IndexFunc_Simpl_Kind_impl_Kind__impl_kindIndex_1_ok (k : Nat) : SoundE Tryd.prog glob (E_slices_IndexFunc_Simpl_Kind_impl_Kind__impl_kindIndex_1 k) ∧ NatE (E_slices_IndexFunc_Simpl_Kind_impl_Kind__impl_kindIndex_1 k) := tab_cons (s_slices_IndexFunc_Simpl_Kind_impl_Kind__impl_kindIndex_1 k) (E_impl_kindIndex_1_ok k)
/-- impl.kindIndex -/
def cx_impl_kindIndex : Cx := { N := 8, G := glob, C := tys, ad := fun d => Nat.beq d 7, wk := false, dp := true }
def F_impl_kindIndex (k : Nat) : FArg (.c (.val (.sl (.st (.pair .str (.pair (.int .i64) (.pair (.int .i64) (.pair (.int .i64) (.pair .bool (.int .i64))))))))) (.c (.val .str) .e)) := fun x K => impl_kindIndex k x.1 x.2.1 (fun (r0 : Int) => K [⟨(.int .i64), r0, true⟩])
theorem s_impl_kindIndex (k : Nat) : SoundF Tryd.prog glob 107 (ftab (.c (.val (.sl (.st (.pair .str (.pair (.int .i64) (.pair (.int .i64) (.pair (.int .i64) (.pair .bool (.int .i64))))))))) (.c (.val .str) .e)) (F_impl_kindIndex k)) :=
  fun_ok (cx := cx_impl_kindIndex) (by kernel_rfl) ⟨types, (E_slices_IndexFunc_Simpl_Kind_impl_Kind__impl_kindIndex_1_ok k).1, (E_slices_IndexFunc_Simpl_Kind_impl_Kind__impl_kindIndex_1_ok k).2, mixed, rfl⟩ Tryd.func107 rfl (LoopsOK.nil) [] (by kernel_rfl) (fun x K => by kernel_rfl)
def E_impl_kindIndex (k : Nat) : Tbl := tcons 107 (ftab (.c (.val (.sl (.st (.pair .str (.pair (.int .i64) (.pair (.int .i64) (.pair (.int .i64) (.pair .bool (.int .i64))))))))) (.c (.val .str) .e)) (F_impl_kindIndex k)) (E_slices_IndexFunc_Simpl_Kind_impl_Kind__impl_kindIndex_1 k)
theorem E_impl_kindIndex_ok (k : Nat) : SoundE Tryd.prog glob (E_impl_kindIndex k) ∧ NatE (E_impl_kindIndex k) := tab_cons (s_impl_kindIndex k) (E_slices_IndexFunc_Simpl_Kind_impl_Kind__impl_kindIndex_1_ok k)
/-- impl.IsRules -/
def cx_impl_IsRules : Cx := { N := 87, G := glob, C := tys, ad := fun d => Nat.beq d 10 || Nat.beq d 16 || Nat.beq d 31 || Nat.beq d 38 || Nat.beq d 52 || Nat.beq d 59 || Nat.beq d 66 || Nat.beq d 70 || Nat.beq d 75 || Nat.beq d 80 || Nat.beq d 85, wk := false, dp := true }
def sp_impl_IsRules_l0 : LSp where
  cv := []
  ts := [(1, .ptr 1), (20, .val (.sl (.st (.pair .str (.pair (.sl (.int .i64)) (.pair (.int .i64) (.pair (.int .i64) .bool))))))), (21, .val (.int .i64)), (22, .val (.int .i64))]
  ids := [(1, .box (.st (.pair (.sl (.st (.pair .str (.pair (.sl (.int .i64)) (.pair (.int .i64) (.pair (.int .i64) .bool)))))) (.pair (.sl (.st (.pair .str (.pair (.int .i64) (.pair (.int .i64) (.pair (.int .i64) (.pair .bool (.int .i64)))))))) (.pair (.int .i64) (.pair (.int .i64) (.pair (.int .i64) (.pair (.int .i64) (.int .i64)))))))) (.val (.st (.pair (.sl (.st (.pair .str (.pair (.sl (.int .i64)) (.pair (.int .i64) (.pair (.int .i64) .bool)))))) (.pair (.sl (.st (.pair .str (.pair (.int .i64) (.pair (.int .i64) (.pair (.int .i64) (.pair .bool (.int .i64)))))))) (.pair (.int .i64) (.pair (.int .i64) (.pair (.int .i64) (.pair (.int .i64) (.int .i64))))))))))]
  tx := fun e => match e with | .exit i => bif Nat.beq i 0 then [1] else [] | .ret => [2] | .normal => []
  ix := fun e => match e with | .exit i => bif Nat.beq i 0 then [1] else [] | .ret => [] | .normal => []
def F_impl_IsRules_l0 (k : Nat) : LArg sp_impl_IsRules_l0 := fun K n x y => impl_IsRules_l0 k (fun (y0 : (List (ByteArray × (List Int) × Int × Int × Bool)) × (List (ByteArray × Int × Int × Int × Bool × Int)) × Int × Int × Int × Int × Int) => K (.exit 0) (mkSt [(1, .ptr 1 1 [])] [(1, some (.box (.st (.pair (.sl (.st (.pair .str (.pair (.sl (.int .i64)) (.pair (.int .i64) (.pair (.int .i64) .bool)))))) (.pair (.sl (.st (.pair .str (.pair (.int .i64) (.pair (.int .i64) (.pair (.int .i64) (.pair .bool (.int .i64)))))))) (.pair (.int .i64) (.pair (.int .i64) (.pair (.int .i64) (.pair (.int .i64) (.int .i64)))))))) (.val (.st (.pair (.sl (.st (.pair .str (.pair (.sl (.int .i64)) (.pair (.int .i64) (.pair (.int .i64) .bool)))))) (.pair (.sl (.st (.pair .str (.pair (.int .i64) (.pair (.int .i64) (.pair (.int .i64) (.pair .bool (.int .i64)))))))) (.pair (.int .i64) (.pair (.int .i64) (.pair (.int .i64) (.pair (.int .i64) (.int .i64)))))))) y0)))])) (fun (y0 : Bool) => K (.ret) (mkSt [(2, .val .bool y0)] [])) n x.2.1 x.2.2.1 x.2.2.2.1 y.1
def LO_impl_IsRules_l0 (k : Nat) : LTbl := (lcons 4 (ltab sp_impl_IsRules_l0 (F_impl_IsRules_l0 k) k) lnil)
theorem lk_impl_IsRules_l0 (k : Nat) : LoopsOK Tryd.prog glob (E_impl_kindIndex k) cx_impl_IsRules (LO_impl_IsRules_l0 k) ((4, (loopB Tryd.f55 4)) :: []) :=
  LoopsOK.cons (LoopsOK.nil) (E_impl_kindIndex_ok k).2 (F := F_impl_IsRules_l0 k) k [] (by kernel_rfl) (by kernel_rfl) (fun K x y => rfl) (fun n x y K => by kernel_rfl)
def sp_impl_IsRules_l1 : LSp where
  cv := []
  ts := [(1, .ptr 1), (44, .val (.sl (.st (.pair .str (.pair (.int .i64) (.pair (.int .i64) (.pair (.int .i64) (.pair .bool (.int .i64))))))))), (45, .val (.int .i64)), (46, .val (.int .i64))]
  ids := [(1, .box (.st (.pair (.sl (.st (.pair .str (.pair (.sl (.int .i64)) (.pair (.int .i64) (.pair (.int .i64) .bool)))))) (.pair (.sl (.st (.pair .str (.pair (.int .i64) (.pair (.int .i64) (.pair (.int .i64) (.pair .bool (.int .i64)))))))) (.pair (.int .i64) (.pair (.int .i64) (.pair (.int .i64) (.pair (.int .i64) (.int .i64)))))))) (.val (.st (.pair (.sl (.st (.pair .str (.pair (.sl (.int .i64)) (.pair (.int .i64) (.pair (.int .i64) .bool)))))) (.pair (.sl (.st (.pair .str (.pair (.int .i64) (.pair (.int .i64) (.pair (.int .i64) (.pair .bool (.int .i64)))))))) (.pair (.int .i64) (.pair (.int .i64) (.pair (.int .i64) (.pair (.int .i64) (.int .i64))))))))))]
  tx := fun e => match e with | .exit i => bif Nat.beq i 2 then [1] else [] | .ret => [2] | .normal => []
  ix := fun e => match e with | .exit i => bif Nat.beq i 2 then [1] else [] | .ret => [] | .normal => []
def F_impl_IsRules_l1 (k : Nat) : LArg sp_impl_IsRules_l1 := fun K n x y => impl_IsRules_l1 k (fun (y0 : (List (ByteArray × (List Int) × Int × Int × Bool)) × (List (ByteArray × Int × Int × Int × Bool × Int)) × Int × Int × Int × Int × Int) => K (.exit 2) (mkSt [(1, .ptr 1 1 [])] [(1, some (.box (.st (.pair (.sl (.st (.pair .str (.pair (.sl (.int .i64)) (.pair (.int .i64) (.pair (.int .i64) .bool)))))) (.pair (.sl (.st (.pair .str (.pair (.int .i64) (.pair (.int .i64) (.pair (.int .i64) (.pair .bool (.int .i64)))))))) (.pair (.int .i64) (.pair (.int .i64) (.pair (.int .i64) (.pair (.int .i64) (.int .i64)))))))) (.val (.st (.pair (.sl (.st (.pair .str (.pair (.sl (.int .i64)) (.pair (.int .i64) (.pair (.int .i64) .bool)))))) (.pair (.sl (.st (.pair .str (.pair (.int .i64) (.pair (.int .i64) (.pair (.int .i64) (.pair .bool (.int .i64)))))))) (.pair (.int .i64) (.pair (.int .i64) (.pair (.int .i64) (.pair (.int .i64) (.int .i64)))))))) y0)))])) (fun (y0 : Bool) => K (.ret) (mkSt [(2, .val .bool y0)] [])) n x.2.1 x.2.2.1 x.2.2.2.1 y.1
def LO_impl_IsRules_l1 (k : Nat) : LTbl := (lcons 10 (ltab sp_impl_IsRules_l1 (F_impl_IsRules_l1 k) k) (LO_impl_IsRules_l0 k))
theorem lk_impl_IsRules_l1 (k : Nat) : LoopsOK Tryd.prog glob (E_impl_kindIndex k) cx_impl_IsRules (LO_impl_IsRules_l1 k) ((10, (loopB Tryd.f55 10)) :: ((4, (loopB Tryd.f55 4)) :: [])) :=
  LoopsOK.cons (lk_impl_IsRules_l0 k) (E_impl_kindIndex_ok k).2 (F := F_impl_IsRules_l1 k) k [] (by kernel_rfl) (by kernel_rfl) (fun K x y => rfl) (fun n x y K => by kernel_rfl)
def F_impl_IsRules (k : Nat) : FArg (.c (.val (.st (.pair (.sl (.st (.pair .str (.pair (.sl (.int .i64)) (.pair (.int .i64) (.pair (.int .i64) .bool)))))) (.pair (.sl (.st (.pair .str (.pair (.int .i64) (.pair (.int .i64) (.pair (.int .i64) (.pair .bool (.int .i64)))))))) (.pair (.int .i64) (.pair (.int .i64) (.pair (.int .i64) (.pair (.int .i64) (.int .i64))))))))) .e) := fun x K => impl_IsRules k x.1 (fun (r0 : Bool) => K [⟨.bool, r0, true⟩])
theorem s_impl_IsRules (k : Nat) : SoundF Tryd.prog glob 55 (ftab (.c (.val (.st (.pair (.sl (.st (.pair .str (.pair (.sl (.int .i64)) (.pair (.int .i64) (.pair (.int .i64) .bool)))))) (.pair (.sl (.st (.pair .str (.pair (.int .i64) (.pair (.int .i64) (.pair (.int .i64) (.pair .bool (.int .i64)))))))) (.pair (.int .i64) (.pair (.int .i64) (.pair (.int .i64) (.pair (.int .i64) (.int .i64))))))))) .e) (F_impl_IsRules k)) :=
  fun_ok (cx := cx_impl_IsRules) (by kernel_rfl) ⟨types, (E_impl_kindIndex_ok k).1, (E_impl_kindIndex_ok k).2, mixed, rfl⟩ Tryd.func55 rfl (lk_impl_IsRules_l1 k) [1, 0] (by kernel_rfl) (fun x K => by kernel_rfl)
def E_impl_IsRules (k : Nat) : Tbl := tcons 55 (ftab (.c (.val (.st (.pair (.sl (.st (.pair .str (.pair (.sl (.int .i64)) (.pair (.int .i64) (.pair (.int .i64) .bool)))))) (.pair (.sl (.st (.pair .str (.pair (.int .i64) (.pair (.int .i64) (.pair (.int .i64) (.pair .bool (.int .i64)))))))) (.pair (.int .i64) (.pair (.int .i64) (.pair (.int .i64) (.pair (.int .i64) (.int .i64))))))))) .e) (F_impl_IsRules k)) (E_impl_kindIndex k)
theorem E_impl_IsRules_ok (k : Nat) : SoundE Tryd.prog glob (E_impl_IsRules k) ∧ NatE (E_impl_IsRules k) := tab_cons (s_impl_IsRules k) (E_impl_kindIndex_ok k)
/-- impl.isIndex -/
def cx_impl_isIndex : Cx := { N := 9, G := glob, C := tys, ad := fun d => Nat.beq d 8, wk := false, dp := true }
def F_impl_isIndex (k : Nat) : FArg (.c (.val (.int .i64)) (.c (.val (.int .i64)) .e)) := fun x K => impl_isIndex x.1 x.2.1 (fun (r0 : Bool) => K [⟨.bool, r0, true⟩])
theorem s_impl_isIndex (k : Nat) : SoundF Tryd.prog glob 62 (ftab (.c (.val (.int .i64)) (.c (.val (.int .i64)) .e)) (F_impl_isIndex k)) :=
  fun_ok (cx := cx_impl_isIndex) (by kernel_rfl) ⟨types, (E_impl_IsRules_ok k).1, (E_impl_IsRules_ok k).2, mixed, rfl⟩ Tryd.func62 rfl (LoopsOK.nil) [] (by kernel_rfl) (fun x K => by kernel_rfl)
def E_impl_isIndex (k : Nat) : Tbl := tcons 62 (ftab (.c (.val (.int .i64)) (.c (.val (.int .i64)) .e)) (F_impl_isIndex k)) (E_impl_IsRules k)
theorem E_impl_isIndex_ok (k : Nat) : SoundE Tryd.prog glob (E_impl_isIndex k) ∧ NatE (E_impl_isIndex k) := tab_cons (s_impl_isIndex k) (E_impl_IsRules_ok k)
/-- impl.increasing -/
def cx_impl_increasing : Cx := { N := 20, G := glob, C := tys, ad := fun d => false, wk := false, dp := true }
def sp_impl_increasing_l0 : LSp where
  cv := []
  ts := [(0, .val (.sl (.int .i64))), (3, .val (.int .i64))]
  ids := []
  tx := fun e => match e with | .exit i => bif Nat.beq i 0 then [] else [] | .ret => [2] | .normal => []
  ix := fun e => match e with | .exit i => bif Nat.beq i 0 then [] else [] | .ret => [] | .normal => []
def F_impl_increasing_l0 (k : Nat) : LArg sp_impl_increasing_l0 := fun K n x y => impl_increasing_l0 k (K (.exit 0) (mkSt [] [])) (fun (y0 : Bool) => K (.ret) (mkSt [(2, .val .bool y0)] [])) n x.1 x.2.1
def LO_impl_increasing_l0 (k : Nat) : LTbl := (lcons 2 (ltab sp_impl_increasing_l0 (F_impl_increasing_l0 k) k) lnil)
theorem lk_impl_increasing_l0 (k : Nat) : LoopsOK Tryd.prog glob (E_impl_isIndex k) cx_impl_increasing (LO_impl_increasing_l0 k) ((2, (loopB Tryd.f108 2)) :: []) :=
  LoopsOK.cons (LoopsOK.nil) (E_impl_isIndex_ok k).2 (F := F_impl_increasing_l0 k) k [] (by kernel_rfl) (by kernel_rfl) (fun K x y => rfl) (fun n x y K => by kernel_rfl)
def F_impl_increasing (k : Nat) : FArg (.c (.val (.sl (.int .i64))) .e) := fun x K => impl_increasing k x.1 (fun (r0 : Bool) => K [⟨.bool, r0, true⟩])
theorem s_impl_increasing (k : Nat) : SoundF Tryd.prog glob 108 (ftab (.c (.val (.sl (.int .i64))) .e) (F_impl_increasing k)) :=
  fun_ok (cx := cx_impl_increasing) (by kernel_rfl) ⟨types, (E_impl_isIndex_ok k).1, (E_impl_isIndex_ok k).2, mixed, rfl⟩ Tryd.func108 rfl (lk_impl_increasing_l0 k) [0] (by kernel_rfl) (fun x K => by kernel_rfl)
def E_impl_increasing (k : Nat) : Tbl := tcons 108 (ftab (.c (.val (.sl (.int .i64))) .e) (F_impl_increasing k)) (E_impl_isIndex k)
theorem E_impl_increasing_ok (k : Nat) : SoundE Tryd.prog glob (E_impl_increasing k) ∧ NatE (E_impl_increasing k) := tab_cons (s_impl_increasing k) (E_impl_isIndex_ok k)
/-- impl.hexOf -/
def cx_impl_hexOf : Cx := { N := 14, G := glob, C := tys, ad := fun d => false, wk := false, dp := true }
def F_impl_hexOf (k : Nat) : FArg (.c (.val (.st (.pair (.int .i64) (.pair (.int .i64) (.pair (.sl (.int .i64)) (.pair (.sl (.int .i64)) (.sl (.int .i64)))))))) (.c (.val (.int .i64)) .e)) := fun x K => impl_hexOf x.1 x.2.1 (fun (r0 : Int × Int) => K [⟨(.st (.pair (.int .i64) (.int .i64))), r0, true⟩])
theorem s_impl_hexOf (k : Nat) : SoundF Tryd.prog glob 161 (ftab (.c (.val (.st (.pair (.int .i64) (.pair (.int .i64) (.pair (.sl (.int .i64)) (.pair (.sl (.int .i64)) (.sl (.int .i64)))))))) (.c (.val (.int .i64)) .e)) (F_impl_hexOf k)) :=
  fun_ok (cx := cx_impl_hexOf) (by kernel_rfl) ⟨types, (E_impl_increasing_ok k).1, (E_impl_increasing_ok k).2, mixed, rfl⟩ Tryd.func161 rfl (LoopsOK.nil) [] (by kernel_rfl) (fun x K => by kernel_rfl)
def E_impl_hexOf (k : Nat) : Tbl := tcons 161 (ftab (.c (.val (.st (.pair (.int .i64) (.pair (.int .i64) (.pair (.sl (.int .i64)) (.pair (.sl (.int .i64)) (.sl (.int .i64)))))))) (.c (.val (.int .i64)) .e)) (F_impl_hexOf k)) (E_impl_increasing k)
theorem E_impl_hexOf_ok (k : Nat) : SoundE Tryd.prog glob (E_impl_hexOf k) ∧ NatE (E_impl_hexOf k) := tab_cons (s_impl_hexOf k) (E_impl_increasing_ok k)
/-- impl.stepBy -/
def cx_impl_stepBy : Cx := { N := 26, G := glob, C := tys, ad := fun d => false, wk := false, dp := true }
def F_impl_stepBy (k : Nat) : FArg (.c (.val (.st (.pair (.int .i64) (.int .i64)))) (.c (.val (.int .i64)) (.c (.val (.int .i64)) .e))) := fun x K => impl_stepBy x.1 x.2.1 x.2.2.1 (fun (r0 : Int × Int) => K [⟨(.st (.pair (.int .i64) (.int .i64))), r0, true⟩])
theorem s_impl_stepBy (k : Nat) : SoundF Tryd.prog glob 160 (ftab (.c (.val (.st (.pair (.int .i64) (.int .i64)))) (.c (.val (.int .i64)) (.c (.val (.int .i64)) .e))) (F_impl_stepBy k)) :=
  fun_ok (cx := cx_impl_stepBy) (by kernel_rfl) ⟨types, (E_impl_hexOf_ok k).1, (E_impl_hexOf_ok k).2, mixed, rfl⟩ Tryd.func160 rfl (LoopsOK.nil) [] (by kernel_rfl) (fun x K => by kernel_rfl)
def E_impl_stepBy (k : Nat) : Tbl := tcons 160 (ftab (.c (.val (.st (.pair (.int .i64) (.int .i64)))) (.c (.val (.int .i64)) (.c (.val (.int .i64)) .e))) (F_impl_stepBy k)) (E_impl_hexOf k)
theorem E_impl_stepBy_ok (k : Nat) : SoundE Tryd.prog glob (E_impl_stepBy k) ∧ NatE (E_impl_stepBy k) := tab_cons (s_impl_stepBy k) (E_impl_hexOf_ok k)
/-- impl.indexOf -/
def cx_impl_indexOf : Cx := { N := 27, G := glob, C := tys, ad := fun d => Nat.beq d 9 || Nat.beq d 16, wk := false, dp := true }
def F_impl_indexOf (k : Nat) : FArg (.c (.val (.st (.pair (.int .i64) (.pair (.int .i64) (.pair (.sl (.int .i64)) (.pair (.sl (.int .i64)) (.sl (.int .i64)))))))) (.c (.val (.st (.pair (.int .i64) (.int .i64)))) .e)) := fun x K => impl_indexOf x.1 x.2.1 (fun (r0 : Int) => K [⟨(.int .i64), r0, true⟩])
theorem s_impl_indexOf (k : Nat) : SoundF Tryd.prog glob 159 (ftab (.c (.val (.st (.pair (.int .i64) (.pair (.int .i64) (.pair (.sl (.int .i64)) (.pair (.sl (.int .i64)) (.sl (.int .i64)))))))) (.c (.val (.st (.pair (.int .i64) (.int .i64)))) .e)) (F_impl_indexOf k)) :=
  fun_ok (cx := cx_impl_indexOf) (by kernel_rfl) ⟨types, (E_impl_stepBy_ok k).1, (E_impl_stepBy_ok k).2, mixed, rfl⟩ Tryd.func159 rfl (LoopsOK.nil) [] (by kernel_rfl) (fun x K => by kernel_rfl)
def E_impl_indexOf (k : Nat) : Tbl := tcons 159 (ftab (.c (.val (.st (.pair (.int .i64) (.pair (.int .i64) (.pair (.sl (.int .i64)) (.pair (.sl (.int .i64)) (.sl (.int .i64)))))))) (.c (.val (.st (.pair (.int .i64) (.int .i64)))) .e)) (F_impl_indexOf k)) (E_impl_stepBy k)
theorem E_impl_indexOf_ok (k : Nat) : SoundE Tryd.prog glob (E_impl_indexOf k) ∧ NatE (E_impl_indexOf k) := tab_cons (s_impl_indexOf k) (E_impl_stepBy_ok k)
/-- impl.nextTo -/
def cx_impl_nextTo : Cx := { N := 14, G := glob, C := tys, ad := fun d => Nat.beq d 13, wk := false, dp := true }
def F_impl_nextTo (k : Nat) : FArg (.c (.val (.st (.pair (.int .i64) (.pair (.int .i64) (.pair (.sl (.int .i64)) (.pair (.sl (.int .i64)) (.sl (.int .i64)))))))) (.c (.val (.int .i64)) (.c (.val (.int .i64)) .e))) := fun x K => impl_nextTo x.1 x.2.1 x.2.2.1 (fun (r0 : Int) => K [⟨(.int .i64), r0, true⟩])
theorem s_impl_nextTo (k : Nat) : SoundF Tryd.prog glob 149 (ftab (.c (.val (.st (.pair (.int .i64) (.pair (.int .i64) (.pair (.sl (.int .i64)) (.pair (.sl (.int .i64)) (.sl (.int .i64)))))))) (.c (.val (.int .i64)) (.c (.val (.int .i64)) .e))) (F_impl_nextTo k)) :=
  fun_ok (cx := cx_impl_nextTo) (by kernel_rfl) ⟨types, (E_impl_indexOf_ok k).1, (E_impl_indexOf_ok k).2, mixed, rfl⟩ Tryd.func149 rfl (LoopsOK.nil) [] (by kernel_rfl) (fun x K => by kernel_rfl)
def E_impl_nextTo (k : Nat) : Tbl := tcons 149 (ftab (.c (.val (.st (.pair (.int .i64) (.pair (.int .i64) (.pair (.sl (.int .i64)) (.pair (.sl (.int .i64)) (.sl (.int .i64)))))))) (.c (.val (.int .i64)) (.c (.val (.int .i64)) .e))) (F_impl_nextTo k)) (E_impl_indexOf k)
theorem E_impl_nextTo_ok (k : Nat) : SoundE Tryd.prog glob (E_impl_nextTo k) ∧ NatE (E_impl_nextTo k) := tab_cons (s_impl_nextTo k) (E_impl_indexOf_ok k)
/-- impl.isEdge -/
def cx_impl_isEdge : Cx := { N := 23, G := glob, C := tys, ad := fun d => Nat.beq d 13 || Nat.beq d 20, wk := false, dp := true }
def F_impl_isEdge (k : Nat) : FArg (.c (.val (.st (.pair (.int .i64) (.pair (.int .i64) (.pair (.sl (.int .i64)) (.pair (.sl (.int .i64)) (.sl (.int .i64)))))))) (.c (.val (.int .i64)) .e)) := fun x K => impl_isEdge x.1 x.2.1 (fun (r0 : Bool) => K [⟨.bool, r0, true⟩])
theorem s_impl_isEdge (k : Nat) : SoundF Tryd.prog glob 109 (ftab (.c (.val (.st (.pair (.int .i64) (.pair (.int .i64) (.pair (.sl (.int .i64)) (.pair (.sl (.int .i64)) (.sl (.int .i64)))))))) (.c (.val (.int .i64)) .e)) (F_impl_isEdge k)) :=
  fun_ok (cx := cx_impl_isEdge) (by kernel_rfl) ⟨types, (E_impl_nextTo_ok k).1, (E_impl_nextTo_ok k).2, mixed, rfl⟩ Tryd.func109 rfl (LoopsOK.nil) [] (by kernel_rfl) (fun x K => by kernel_rfl)
def E_impl_isEdge (k : Nat) : Tbl := tcons 109 (ftab (.c (.val (.st (.pair (.int .i64) (.pair (.int .i64) (.pair (.sl (.int .i64)) (.pair (.sl (.int .i64)) (.sl (.int .i64)))))))) (.c (.val (.int .i64)) .e)) (F_impl_isEdge k)) (E_impl_nextTo k)
theorem E_impl_isEdge_ok (k : Nat) : SoundE Tryd.prog glob (E_impl_isEdge k) ∧ NatE (E_impl_isEdge k) := tab_cons (s_impl_isEdge k) (E_impl_nextTo_ok k)
/-- impl.IsMap -/
def cx_impl_IsMap : Cx := { N := 66, G := glob, C := tys, ad := fun d => Nat.beq d 11 || Nat.beq d 16 || Nat.beq d 38 || Nat.beq d 52 || Nat.beq d 62, wk := false }
def sp_impl_IsMap_l0 : LSp where
  cv := []
  ts := [(1, .ptr 1), (31, .val (.sl (.int .i64))), (32, .val (.int .i64)), (33, .val (.int .i64))]
  ids := [(1, .box (.st (.pair (.int .i64) (.pair (.int .i64) (.pair (.sl (.int .i64)) (.pair (.sl (.int .i64)) (.sl (.int .i64))))))) (.val (.st (.pair (.int .i64) (.pair (.int .i64) (.pair (.sl (.int .i64)) (.pair (.sl (.int .i64)) (.sl (.int .i64)))))))))]
  tx := fun e => match e with | .exit i => bif Nat.beq i 0 then [1] else [] | .ret => [2] | .normal => []
  ix := fun e => match e with | .exit i => bif Nat.beq i 0 then [1] else [] | .ret => [] | .normal => []
def F_impl_IsMap_l0 (k : Nat) : LArg sp_impl_IsMap_l0 := fun K n x y => impl_IsMap_l0 k (fun (y0 : Int × Int × (List Int) × (List Int) × List Int) => K (.exit 0) (mkSt [(1, .ptr 1 1 [])] [(1, some (.box (.st (.pair (.int .i64) (.pair (.int .i64) (.pair (.sl (.int .i64)) (.pair (.sl (.int .i64)) (.sl (.int .i64))))))) (.val (.st (.pair (.int .i64) (.pair (.int .i64) (.pair (.sl (.int .i64)) (.pair (.sl (.int .i64)) (.sl (.int .i64))))))) y0)))])) (fun (y0 : Bool) => K (.ret) (mkSt [(2, .val .bool y0)] [])) n x.2.1 x.2.2.1 x.2.2.2.1 y.1
def LO_impl_IsMap_l0 (k : Nat) : LTbl := (lcons 4 (ltab sp_impl_IsMap_l0 (F_impl_IsMap_l0 k) k) lnil)
theorem lk_impl_IsMap_l0 (k : Nat) : LoopsOK Tryd.prog glob (E_impl_isEdge k) cx_impl_IsMap (LO_impl_IsMap_l0 k) ((4, (loopB Tryd.f56 4)) :: []) :=
  LoopsOK.cons (LoopsOK.nil) (E_impl_isEdge_ok k).2 (F := F_impl_IsMap_l0 k) k [] (by kernel_rfl) (by kernel_rfl) (fun K x y => rfl) (fun n x y K => by kernel_rfl)
def sp_impl_IsMap_l1 : LSp where
  cv := []
  ts := [(1, .ptr 1), (45, .own 45), (46, .val (.int .i64)), (47, .val (.int .i64)), (54, .val (.sl (.int .i64))), (55, .val (.int .i64)), (56, .val (.int .i64))]
  ids := [(1, .box (.st (.pair (.int .i64) (.pair (.int .i64) (.pair (.sl (.int .i64)) (.pair (.sl (.int .i64)) (.sl (.int .i64))))))) (.val (.st (.pair (.int .i64) (.pair (.int .i64) (.pair (.sl (.int .i64)) (.pair (.sl (.int .i64)) (.sl (.int .i64))))))))), (45, .row (.sl (.int .i64)))]
  tx := fun e => match e with | .exit i => bif Nat.beq i 4 then [1, 45, 46, 47] else [] | .ret => [2] | .normal => []
  ix := fun e => match e with | .exit i => bif Nat.beq i 4 then [1, 45] else [] | .ret => [] | .normal => []
def F_impl_IsMap_l1 (k : Nat) : LArg sp_impl_IsMap_l1 := fun K n x y => impl_IsMap_l1 k (fun (y0 : Int) (y1 : Int) (y2 : Int × Int × (List Int) × (List Int) × List Int) (y3 : List (List Int)) => K (.exit 4) (mkSt [(1, .ptr 1 1 []), (45, .own 45 1), (46, .val (.int .i64) y0), (47, .val (.int .i64) y1)] [(1, some (.box (.st (.pair (.int .i64) (.pair (.int .i64) (.pair (.sl (.int .i64)) (.pair (.sl (.int .i64)) (.sl (.int .i64))))))) (.val (.st (.pair (.int .i64) (.pair (.int .i64) (.pair (.sl (.int .i64)) (.pair (.sl (.int .i64)) (.sl (.int .i64))))))) y2))), (45, some (.row (.sl (.int .i64)) y3))])) (fun (y0 : Bool) => K (.ret) (mkSt [(2, .val .bool y0)] [])) n x.2.2.1 x.2.2.2.1 x.2.2.2.2.1 x.2.2.2.2.2.1 x.2.2.2.2.2.2.1 y.1 y.2.1
def LO_impl_IsMap_l1 (k : Nat) : LTbl := (lcons 15 (ltab sp_impl_IsMap_l1 (F_impl_IsMap_l1 k) k) (LO_impl_IsMap_l0 k))
theorem lk_impl_IsMap_l1 (k : Nat) : LoopsOK Tryd.prog glob (E_impl_isEdge k) cx_impl_IsMap (LO_impl_IsMap_l1 k) ((15, (loopB Tryd.f56 15)) :: ((4, (loopB Tryd.f56 4)) :: [])) :=
  LoopsOK.cons (lk_impl_IsMap_l0 k) (E_impl_isEdge_ok k).2 (F := F_impl_IsMap_l1 k) k [] (by kernel_rfl) (by kernel_rfl) (fun K x y => rfl) (fun n x y K => by kernel_rfl)
def sp_impl_IsMap_l2 : LSp where
  cv := []
  ts := [(1, .ptr 1), (45, .own 45), (46, .val (.int .i64)), (47, .val (.int .i64))]
  ids := [(1, .box (.st (.pair (.int .i64) (.pair (.int .i64) (.pair (.sl (.int .i64)) (.pair (.sl (.int .i64)) (.sl (.int .i64))))))) (.val (.st (.pair (.int .i64) (.pair (.int .i64) (.pair (.sl (.int .i64)) (.pair (.sl (.int .i64)) (.sl (.int .i64))))))))), (45, .row (.sl (.int .i64)))]
  tx := fun e => match e with | .exit i => bif Nat.beq i 2 then [] else [] | .ret => [2] | .normal => []
  ix := fun e => match e with | .exit i => bif Nat.beq i 2 then [] else [] | .ret => [] | .normal => []
def F_impl_IsMap_l2 (k : Nat) : LArg sp_impl_IsMap_l2 := fun K n x y => impl_IsMap_l2 k (K (.exit 2) (mkSt [] [])) (fun (y0 : Bool) => K (.ret) (mkSt [(2, .val .bool y0)] [])) n x.2.2.1 x.2.2.2.1 y.1 y.2.1
def LO_impl_IsMap_l2 (k : Nat) : LTbl := (lcons 10 (ltab sp_impl_IsMap_l2 (F_impl_IsMap_l2 k) k) (LO_impl_IsMap_l1 k))
theorem lk_impl_IsMap_l2 (k : Nat) : LoopsOK Tryd.prog glob (E_impl_isEdge k) cx_impl_IsMap (LO_impl_IsMap_l2 k) ((10, (loopB Tryd.f56 10)) :: ((15, (loopB Tryd.f56 15)) :: ((4, (loopB Tryd.f56 4)) :: []))) :=
  LoopsOK.cons (lk_impl_IsMap_l1 k) (E_impl_isEdge_ok k).2 (F := F_impl_IsMap_l2 k) k [0] (by kernel_rfl) (by kernel_rfl) (fun K x y => rfl) (fun n x y K => by kernel_rfl)
def F_impl_IsMap (k : Nat) : FArg (.c (.val (.st (.pair (.int .i64) (.pair (.int .i64) (.pair (.sl (.int .i64)) (.pair (.sl (.int .i64)) (.sl (.int .i64)))))))) .e) := fun x K => impl_IsMap k x.1 (fun (r0 : Bool) => K [⟨.bool, r0, true⟩])
theorem s_impl_IsMap (k : Nat) : SoundF Tryd.prog glob 56 (ftab (.c (.val (.st (.pair (.int .i64) (.pair (.int .i64) (.pair (.sl (.int .i64)) (.pair (.sl (.int .i64)) (.sl (.int .i64)))))))) .e) (F_impl_IsMap k)) :=
  fun_ok (cx := cx_impl_IsMap) (by kernel_rfl) ⟨types, (E_impl_isEdge_ok k).1, (E_impl_isEdge_ok k).2, mixed, rfl⟩ Tryd.func56 rfl (lk_impl_IsMap_l2 k) [2, 0] (by kernel_rfl) (fun x K => by kernel_rfl)
def E_impl_IsMap (k : Nat) : Tbl := tcons 56 (ftab (.c (.val (.st (.pair (.int .i64) (.pair (.int .i64) (.pair (.sl (.int .i64)) (.pair (.sl (.int .i64)) (.sl (.int .i64)))))))) .e) (F_impl_IsMap k)) (E_impl_isEdge k)
theorem E_impl_IsMap_ok (k : Nat) : SoundE Tryd.prog glob (E_impl_IsMap k) ∧ NatE (E_impl_IsMap k) := tab_cons (s_impl_IsMap k) (E_impl_isEdge_ok k)
/-- slices.Index[[]int,int] -/
def cx_slices_Index_Sint_int : Cx := { N := 19, G := glob, C := tys, ad := fun d => false, wk := false }
def sp_slices_Index_Sint_int_l0 : LSp where
  cv := []
  ts := [(0, .val (.sl (.int .i64))), (1, .val (.int .i64)), (7, .val (.int .i64)), (8, .val (.int .i64))]
  ids := []
  tx := fun e => match e with | .exit i => bif Nat.beq i 0 then [] else [] | .ret => [4] | .normal => []
  ix := fun e => match e with | .exit i => bif Nat.beq i 0 then [] else [] | .ret => [] | .normal => []
def F_slices_Index_Sint_int_l0 (k : Nat) : LArg sp_slices_Index_Sint_int_l0 := fun K n x y => slices_Index_Sint_int_l0 k (K (.exit 0) (mkSt [] [])) (fun (y0 : Int) => K (.ret) (mkSt [(4, .val (.int .i64) y0)] [])) n x.1 x.2.1 x.2.2.1 x.2.2.2.1
def LO_slices_Index_Sint_int_l0 (k : Nat) : LTbl := (lcons 2 (ltab sp_slices_Index_Sint_int_l0 (F_slices_Index_Sint_int_l0 k) k) lnil)
theorem lk_slices_Index_Sint_int_l0 (k : Nat) : LoopsOK Tryd.prog glob (E_impl_IsMap k) cx_slices_Index_Sint_int (LO_slices_Index_Sint_int_l0 k) ((2, (loopB Tryd.f122 2)) :: []) :=
  LoopsOK.cons (LoopsOK.nil) (E_impl_IsMap_ok k).2 (F := F_slices_Index_Sint_int_l0 k) k [] (by kernel_rfl) (by kernel_rfl) (fun K x y => rfl) (fun n x y K => by kernel_rfl)
def F_slices_Index_Sint_int (k : Nat) : FArg (.c (.val (.sl (.int .i64))) (.c (.val (.int .i64)) .e)) := fun x K => slices_Index_Sint_int k x.1 x.2.1 (fun (r0 : Int) => K [⟨(.int .i64), r0, true⟩])
theorem s_slices_Index_Sint_int (k : Nat) : SoundF Tryd.prog glob 122 (ftab (.c (.val (.sl (.int .i64))) (.c (.val (.int .i64)) .e)) (F_slices_Index_Sint_int k)) :=
  fun_ok (cx := cx_slices_Index_Sint_int) (by kernel_rfl) ⟨types, (E_impl_IsMap_ok k).1, (E_impl_IsMap_ok k).2, mixed, rfl⟩ Tryd.func122 rfl (lk_slices_Index_Sint_int_l0 k) [0] (by kernel_rfl) (fun x K => by kernel_rfl)
def E_slices_Index_Sint_int (k : Nat) : Tbl := tcons 122 (ftab (.c (.val (.sl (.int .i64))) (.c (.val (.int .i64)) .e)) (F_slices_Index_Sint_int k)) (E_impl_IsMap k)
theorem E_slices_Index_Sint_int_ok (k : Nat) : SoundE Tryd.prog glob (E_slices_Index_Sint_int k) ∧ NatE (E_slices_Index_Sint_int k) := tab_cons (s_slices_Index_Sint_int k) (E_impl_IsMap_ok k)
/-- slices.Contains[[]int,int] -/
def cx_slices_Contains_Sint_int : Cx := { N := 9, G := glob, C := tys, ad := fun d => false, wk := false }
def F_slices_Contains_Sint_int (k : Nat) : FArg (.c (.val (.sl (.int .i64))) (.c (.val (.int .i64)) .e)) := fun x K => slices_Contains_Sint_int k x.1 x.2.1 (fun (r0 : Bool) => K [⟨.bool, r0, true⟩])
theorem s_slices_Contains_Sint_int (k : Nat) : SoundF Tryd.prog glob 74 (ftab (.c (.val (.sl (.int .i64))) (.c (.val (.int .i64)) .e)) (F_slices_Contains_Sint_int k)) :=
  fun_ok (cx := cx_slices_Contains_Sint_int) (by kernel_rfl) ⟨types, (E_slices_Index_Sint_int_ok k).1, (E_slices_Index_Sint_int_ok k).2, mixed, rfl⟩ Tryd.func74 rfl (LoopsOK.nil) [] (by kernel_rfl) (fun x K => by kernel_rfl)
def E_slices_Contains_Sint_int (k : Nat) : Tbl := tcons 74 (ftab (.c (.val (.sl (.int .i64))) (.c (.val (.int .i64)) .e)) (F_slices_Contains_Sint_int k)) (E_slices_Index_Sint_int k)
theorem E_slices_Contains_Sint_int_ok (k : Nat) : SoundE Tryd.prog glob (E_slices_Contains_Sint_int k) ∧ NatE (E_slices_Contains_Sint_int k) := tab_cons (s_slices_Contains_Sint_int k) (E_slices_Index_Sint_int_ok k)
/-- impl.MissingTerrains -/
def cx_impl_MissingTerrains : Cx := { N := 33, G := glob, C := tys, ad := fun d => Nat.beq d 9 || Nat.beq d 13 || Nat.beq d 27, wk := false, dp := true }
def sp_impl_MissingTerrains_l0 : LSp where
  cv := []
  ts := [(3, .ptr 3), (6, .own 16), (7, .val (.int .i64))]
  ids := [(3, .box (.st (.pair (.int .i64) (.pair (.int .i64) (.pair (.sl (.int .i64)) (.pair (.sl (.int .i64)) (.sl (.int .i64))))))) (.val (.st (.pair (.int .i64) (.pair (.int .i64) (.pair (.sl (.int .i64)) (.pair (.sl (.int .i64)) (.sl (.int .i64))))))))), (16, .row (.int .i64))]
  tx := fun e => match e with | .exit i => bif Nat.beq i 0 then [6] else [] | .ret => [] | .normal => []
  ix := fun e => match e with | .exit i => bif Nat.beq i 0 then [16] else [] | .ret => [] | .normal => []
def F_impl_MissingTerrains_l0 (k : Nat) : LArg sp_impl_MissingTerrains_l0 := fun K n x y => impl_MissingTerrains_l0 k (fun (y0 : List Int) => K (.exit 0) (mkSt [(6, .own 16 1)] [(16, some (.row (.int .i64) y0))])) n x.2.2.1 y.1 y.2.1
def LO_impl_MissingTerrains_l0 (k : Nat) : LTbl := (lcons 5 (ltab sp_impl_MissingTerrains_l0 (F_impl_MissingTerrains_l0 k) k) lnil)
theorem lk_impl_MissingTerrains_l0 (k : Nat) : LoopsOK Tryd.prog glob (E_slices_Contains_Sint_int k) cx_impl_MissingTerrains (LO_impl_MissingTerrains_l0 k) ((5, (loopB Tryd.f26 5)) :: []) :=
  LoopsOK.cons (LoopsOK.nil) (E_slices_Contains_Sint_int_ok k).2 (F := F_impl_MissingTerrains_l0 k) k [] (by kernel_rfl) (by kernel_rfl) (fun K x y => rfl) (fun n x y K => by kernel_rfl)
def F_impl_MissingTerrains (k : Nat) : FArg (.c (.val (.st (.pair (.sl (.st (.pair .str (.pair (.sl (.int .i64)) (.pair (.int .i64) (.pair (.int .i64) .bool)))))) (.pair (.sl (.st (.pair .str (.pair (.int .i64) (.pair (.int .i64) (.pair (.int .i64) (.pair .bool (.int .i64)))))))) (.pair (.int .i64) (.pair (.int .i64) (.pair (.int .i64) (.pair (.int .i64) (.int .i64))))))))) (.c (.val (.st (.pair (.int .i64) (.pair (.int .i64) (.pair (.sl (.int .i64)) (.pair (.sl (.int .i64)) (.sl (.int .i64)))))))) .e)) := fun x K => impl_MissingTerrains k x.1 x.2.1 (fun (r0 : List Int) (r1 : Bool) => K [⟨(.sl (.int .i64)), r0, true⟩, ⟨.bool, r1, true⟩])
theorem s_impl_MissingTerrains (k : Nat) : SoundF Tryd.prog glob 26 (ftab (.c (.val (.st (.pair (.sl (.st (.pair .str (.pair (.sl (.int .i64)) (.pair (.int .i64) (.pair (.int .i64) .bool)))))) (.pair (.sl (.st (.pair .str (.pair (.int .i64) (.pair (.int .i64) (.pair (.int .i64) (.pair .bool (.int .i64)))))))) (.pair (.int .i64) (.pair (.int .i64) (.pair (.int .i64) (.pair (.int .i64) (.int .i64))))))))) (.c (.val (.st (.pair (.int .i64) (.pair (.int .i64) (.pair (.sl (.int .i64)) (.pair (.sl (.int .i64)) (.sl (.int .i64)))))))) .e)) (F_impl_MissingTerrains k)) :=
  fun_ok (cx := cx_impl_MissingTerrains) (by kernel_rfl) ⟨types, (E_slices_Contains_Sint_int_ok k).1, (E_slices_Contains_Sint_int_ok k).2, mixed, rfl⟩ Tryd.func26 rfl (lk_impl_MissingTerrains_l0 k) [0] (by kernel_rfl) (fun x K => by kernel_rfl)
def E_impl_MissingTerrains (k : Nat) : Tbl := tcons 26 (ftab (.c (.val (.st (.pair (.sl (.st (.pair .str (.pair (.sl (.int .i64)) (.pair (.int .i64) (.pair (.int .i64) .bool)))))) (.pair (.sl (.st (.pair .str (.pair (.int .i64) (.pair (.int .i64) (.pair (.int .i64) (.pair .bool (.int .i64)))))))) (.pair (.int .i64) (.pair (.int .i64) (.pair (.int .i64) (.pair (.int .i64) (.int .i64))))))))) (.c (.val (.st (.pair (.int .i64) (.pair (.int .i64) (.pair (.sl (.int .i64)) (.pair (.sl (.int .i64)) (.sl (.int .i64)))))))) .e)) (F_impl_MissingTerrains k)) (E_slices_Contains_Sint_int k)
theorem E_impl_MissingTerrains_ok (k : Nat) : SoundE Tryd.prog glob (E_impl_MissingTerrains k) ∧ NatE (E_impl_MissingTerrains k) := tab_cons (s_impl_MissingTerrains k) (E_slices_Contains_Sint_int_ok k)
/-- laws.eqIntS -/
def cx_laws_eqIntS : Cx := { N := 26, G := glob, C := tys, ad := fun d => false, wk := false }
def sp_laws_eqIntS_l0 : LSp where
  cv := []
  ts := [(0, .val (.sl (.int .i64))), (1, .val (.sl (.int .i64))), (5, .val (.int .i64))]
  ids := []
  tx := fun e => match e with | .exit i => bif Nat.beq i 0 then [] else [] | .ret => [4] | .normal => []
  ix := fun e => match e with | .exit i => bif Nat.beq i 0 then [] else [] | .ret => [] | .normal => []
def F_laws_eqIntS_l0 (k : Nat) : LArg sp_laws_eqIntS_l0 := fun K n x y => laws_eqIntS_l0 k (K (.exit 0) (mkSt [] [])) (fun (y0 : Bool) => K (.ret) (mkSt [(4, .val .bool y0)] [])) n x.1 x.2.1 x.2.2.1
def LO_laws_eqIntS_l0 (k : Nat) : LTbl := (lcons 4 (ltab sp_laws_eqIntS_l0 (F_laws_eqIntS_l0 k) k) lnil)
theorem lk_laws_eqIntS_l0 (k : Nat) : LoopsOK Tryd.prog glob (E_impl_MissingTerrains k) cx_laws_eqIntS (LO_laws_eqIntS_l0 k) ((4, (loopB Tryd.f27 4)) :: []) :=
  LoopsOK.cons (LoopsOK.nil) (E_impl_MissingTerrains_ok k).2 (F := F_laws_eqIntS_l0 k) k [] (by kernel_rfl) (by kernel_rfl) (fun K x y => rfl) (fun n x y K => by kernel_rfl)
def F_laws_eqIntS (k : Nat) : FArg (.c (.val (.sl (.int .i64))) (.c (.val (.sl (.int .i64))) .e)) := fun x K => laws_eqIntS k x.1 x.2.1 (fun (r0 : Bool) => K [⟨.bool, r0, true⟩])
theorem s_laws_eqIntS (k : Nat) : SoundF Tryd.prog glob 27 (ftab (.c (.val (.sl (.int .i64))) (.c (.val (.sl (.int .i64))) .e)) (F_laws_eqIntS k)) :=
  fun_ok (cx := cx_laws_eqIntS) (by kernel_rfl) ⟨types, (E_impl_MissingTerrains_ok k).1, (E_impl_MissingTerrains_ok k).2, mixed, rfl⟩ Tryd.func27 rfl (lk_laws_eqIntS_l0 k) [0] (by kernel_rfl) (fun x K => by kernel_rfl)
def E_laws_eqIntS (k : Nat) : Tbl := tcons 27 (ftab (.c (.val (.sl (.int .i64))) (.c (.val (.sl (.int .i64))) .e)) (F_laws_eqIntS k)) (E_impl_MissingTerrains k)
theorem E_laws_eqIntS_ok (k : Nat) : SoundE Tryd.prog glob (E_laws_eqIntS k) ∧ NatE (E_laws_eqIntS k) := tab_cons (s_laws_eqIntS k) (E_impl_MissingTerrains_ok k)
/-- laws.eqTerrain -/
def cx_laws_eqTerrain : Cx := { N := 31, G := glob, C := tys, ad := fun d => false, wk := false }
def F_laws_eqTerrain (k : Nat) : FArg (.c (.val (.st (.pair .str (.pair (.sl (.int .i64)) (.pair (.int .i64) (.pair (.int .i64) .bool)))))) (.c (.val (.st (.pair .str (.pair (.sl (.int .i64)) (.pair (.int .i64) (.pair (.int .i64) .bool)))))) .e)) := fun x K => laws_eqTerrain k x.1 x.2.1 (fun (r0 : Bool) => K [⟨.bool, r0, true⟩])
theorem s_laws_eqTerrain (k : Nat) : SoundF Tryd.prog glob 123 (ftab (.c (.val (.st (.pair .str (.pair (.sl (.int .i64)) (.pair (.int .i64) (.pair (.int .i64) .bool)))))) (.c (.val (.st (.pair .str (.pair (.sl (.int .i64)) (.pair (.int .i64) (.pair (.int .i64) .bool)))))) .e)) (F_laws_eqTerrain k)) :=
  fun_ok (cx := cx_laws_eqTerrain) (by kernel_rfl) ⟨types, (E_laws_eqIntS_ok k).1, (E_laws_eqIntS_ok k).2, mixed, rfl⟩ Tryd.func123 rfl (LoopsOK.nil) [] (by kernel_rfl) (fun x K => by kernel_rfl)
def E_laws_eqTerrain (k : Nat) : Tbl := tcons 123 (ftab (.c (.val (.st (.pair .str (.pair (.sl (.int .i64)) (.pair (.int .i64) (.pair (.int .i64) .bool)))))) (.c (.val (.st (.pair .str (.pair (.sl (.int .i64)) (.pair (.int .i64) (.pair (.int .i64) .bool)))))) .e)) (F_laws_eqTerrain k)) (E_laws_eqIntS k)
theorem E_laws_eqTerrain_ok (k : Nat) : SoundE Tryd.prog glob (E_laws_eqTerrain k) ∧ NatE (E_laws_eqTerrain k) := tab_cons (s_laws_eqTerrain k) (E_laws_eqIntS_ok k)
/-- laws.eqTerrainS -/
def cx_laws_eqTerrainS : Cx := { N := 27, G := glob, C := tys, ad := fun d => false, wk := false }
def sp_laws_eqTerrainS_l0 : LSp where
  cv := []
  ts := [(0, .val (.sl (.st (.pair .str (.pair (.sl (.int .i64)) (.pair (.int .i64) (.pair (.int .i64) .bool))))))), (1, .val (.sl (.st (.pair .str (.pair (.sl (.int .i64)) (.pair (.int .i64) (.pair (.int .i64) .bool))))))), (5, .val (.int .i64))]
  ids := []
  tx := fun e => match e with | .exit i => bif Nat.beq i 0 then [] else [] | .ret => [4] | .normal => []
  ix := fun e => match e with | .exit i => bif Nat.beq i 0 then [] else [] | .ret => [] | .normal => []
def F_laws_eqTerrainS_l0 (k : Nat) : LArg sp_laws_eqTerrainS_l0 := fun K n x y => laws_eqTerrainS_l0 k (K (.exit 0) (mkSt [] [])) (fun (y0 : Bool) => K (.ret) (mkSt [(4, .val .bool y0)] [])) n x.1 x.2.1 x.2.2.1
def LO_laws_eqTerrainS_l0 (k : Nat) : LTbl := (lcons 4 (ltab sp_laws_eqTerrainS_l0 (F_laws_eqTerrainS_l0 k) k) lnil)
theorem lk_laws_eqTerrainS_l0 (k : Nat) : LoopsOK Tryd.prog glob (E_laws_eqTerrain k) cx_laws_eqTerrainS (LO_laws_eqTerrainS_l0 k) ((4, (loopB Tryd.f75 4)) :: []) :=
  LoopsOK.cons (LoopsOK.nil) (E_laws_eqTerrain_ok k).2 (F := F_laws_eqTerrainS_l0 k) k [] (by kernel_rfl) (by kernel_rfl) (fun K x y => rfl) (fun n x y K => by kernel_rfl)
def F_laws_eqTerrainS (k : Nat) : FArg (.c (.val (.sl (.st (.pair .str (.pair (.sl (.int .i64)) (.pair (.int .i64) (.pair (.int .i64) .bool))))))) (.c (.val (.sl (.st (.pair .str (.pair (.sl (.int .i64)) (.pair (.int .i64) (.pair (.int .i64) .bool))))))) .e)) := fun x K => laws_eqTerrainS k x.1 x.2.1 (fun (r0 : Bool) => K [⟨.bool, r0, true⟩])
theorem s_laws_eqTerrainS (k : Nat) : SoundF Tryd.prog glob 75 (ftab (.c (.val (.sl (.st (.pair .str (.pair (.sl (.int .i64)) (.pair (.int .i64) (.pair (.int .i64) .bool))))))) (.c (.val (.sl (.st (.pair .str (.pair (.sl (.int .i64)) (.pair (.int .i64) (.pair (.int .i64) .bool))))))) .e)) (F_laws_eqTerrainS k)) :=
  fun_ok (cx := cx_laws_eqTerrainS) (by kernel_rfl) ⟨types, (E_laws_eqTerrain_ok k).1, (E_laws_eqTerrain_ok k).2, mixed, rfl⟩ Tryd.func75 rfl (lk_laws_eqTerrainS_l0 k) [0] (by kernel_rfl) (fun x K => by kernel_rfl)
def E_laws_eqTerrainS (k : Nat) : Tbl := tcons 75 (ftab (.c (.val (.sl (.st (.pair .str (.pair (.sl (.int .i64)) (.pair (.int .i64) (.pair (.int .i64) .bool))))))) (.c (.val (.sl (.st (.pair .str (.pair (.sl (.int .i64)) (.pair (.int .i64) (.pair (.int .i64) .bool))))))) .e)) (F_laws_eqTerrainS k)) (E_laws_eqTerrain k)
theorem E_laws_eqTerrainS_ok (k : Nat) : SoundE Tryd.prog glob (E_laws_eqTerrainS k) ∧ NatE (E_laws_eqTerrainS k) := tab_cons (s_laws_eqTerrainS k) (E_laws_eqTerrain_ok k)
/-- laws.eqKind -/
def cx_laws_eqKind : Cx := { N := 35, G := glob, C := tys, ad := fun d => false, wk := false }
def F_laws_eqKind (k : Nat) : FArg (.c (.val (.st (.pair .str (.pair (.int .i64) (.pair (.int .i64) (.pair (.int .i64) (.pair .bool (.int .i64)))))))) (.c (.val (.st (.pair .str (.pair (.int .i64) (.pair (.int .i64) (.pair (.int .i64) (.pair .bool (.int .i64)))))))) .e)) := fun x K => laws_eqKind x.1 x.2.1 (fun (r0 : Bool) => K [⟨.bool, r0, true⟩])
theorem s_laws_eqKind (k : Nat) : SoundF Tryd.prog glob 124 (ftab (.c (.val (.st (.pair .str (.pair (.int .i64) (.pair (.int .i64) (.pair (.int .i64) (.pair .bool (.int .i64)))))))) (.c (.val (.st (.pair .str (.pair (.int .i64) (.pair (.int .i64) (.pair (.int .i64) (.pair .bool (.int .i64)))))))) .e)) (F_laws_eqKind k)) :=
  fun_ok (cx := cx_laws_eqKind) (by kernel_rfl) ⟨types, (E_laws_eqTerrainS_ok k).1, (E_laws_eqTerrainS_ok k).2, mixed, rfl⟩ Tryd.func124 rfl (LoopsOK.nil) [] (by kernel_rfl) (fun x K => by kernel_rfl)
def E_laws_eqKind (k : Nat) : Tbl := tcons 124 (ftab (.c (.val (.st (.pair .str (.pair (.int .i64) (.pair (.int .i64) (.pair (.int .i64) (.pair .bool (.int .i64)))))))) (.c (.val (.st (.pair .str (.pair (.int .i64) (.pair (.int .i64) (.pair (.int .i64) (.pair .bool (.int .i64)))))))) .e)) (F_laws_eqKind k)) (E_laws_eqTerrainS k)
theorem E_laws_eqKind_ok (k : Nat) : SoundE Tryd.prog glob (E_laws_eqKind k) ∧ NatE (E_laws_eqKind k) := tab_cons (s_laws_eqKind k) (E_laws_eqTerrainS_ok k)
/-- laws.eqKindS -/
def cx_laws_eqKindS : Cx := { N := 27, G := glob, C := tys, ad := fun d => false, wk := false }
def sp_laws_eqKindS_l0 : LSp where
  cv := []
  ts := [(0, .val (.sl (.st (.pair .str (.pair (.int .i64) (.pair (.int .i64) (.pair (.int .i64) (.pair .bool (.int .i64))))))))), (1, .val (.sl (.st (.pair .str (.pair (.int .i64) (.pair (.int .i64) (.pair (.int .i64) (.pair .bool (.int .i64))))))))), (5, .val (.int .i64))]
  ids := []
  tx := fun e => match e with | .exit i => bif Nat.beq i 0 then [] else [] | .ret => [4] | .normal => []
  ix := fun e => match e with | .exit i => bif Nat.beq i 0 then [] else [] | .ret => [] | .normal => []
def F_laws_eqKindS_l0 (k : Nat) : LArg sp_laws_eqKindS_l0 := fun K n x y => laws_eqKindS_l0 k (K (.exit 0) (mkSt [] [])) (fun (y0 : Bool) => K (.ret) (mkSt [(4, .val .bool y0)] [])) n x.1 x.2.1 x.2.2.1
def LO_laws_eqKindS_l0 (k : Nat) : LTbl := (lcons 4 (ltab sp_laws_eqKindS_l0 (F_laws_eqKindS_l0 k) k) lnil)
theorem lk_laws_eqKindS_l0 (k : Nat) : LoopsOK Tryd.prog glob (E_laws_eqKind k) cx_laws_eqKindS (LO_laws_eqKindS_l0 k) ((4, (loopB Tryd.f76 4)) :: []) :=
  LoopsOK.cons (LoopsOK.nil) (E_laws_eqKind_ok k).2 (F := F_laws_eqKindS_l0 k) k [] (by kernel_rfl) (by kernel_rfl) (fun K x y => rfl) (fun n x y K => by kernel_rfl)
def F_laws_eqKindS (k : Nat) : FArg (.c (.val (.sl (.st (.pair .str (.pair (.int .i64) (.pair (.int .i64) (.pair (.int .i64) (.pair .bool (.int .i64))))))))) (.c (.val (.sl (.st (.pair .str (.pair (.int .i64) (.pair (.int .i64) (.pair (.int .i64) (.pair .bool (.int .i64))))))))) .e)) := fun x K => laws_eqKindS k x.1 x.2.1 (fun (r0 : Bool) => K [⟨.bool, r0, true⟩])
theorem s_laws_eqKindS (k : Nat) : SoundF Tryd.prog glob 76 (ftab (.c (.val (.sl (.st (.pair .str (.pair (.int .i64) (.pair (.int .i64) (.pair (.int .i64) (.pair .bool (.int .i64))))))))) (.c (.val (.sl (.st (.pair .str (.pair (.int .i64) (.pair (.int .i64) (.pair (.int .i64) (.pair .bool (.int .i64))))))))) .e)) (F_laws_eqKindS k)) :=
  fun_ok (cx := cx_laws_eqKindS) (by kernel_rfl) ⟨types, (E_laws_eqKind_ok k).1, (E_laws_eqKind_ok k).2, mixed, rfl⟩ Tryd.func76 rfl (lk_laws_eqKindS_l0 k) [0] (by kernel_rfl) (fun x K => by kernel_rfl)
def E_laws_eqKindS (k : Nat) : Tbl := tcons 76 (ftab (.c (.val (.sl (.st (.pair .str (.pair (.int .i64) (.pair (.int .i64) (.pair (.int .i64) (.pair .bool (.int .i64))))))))) (.c (.val (.sl (.st (.pair .str (.pair (.int .i64) (.pair (.int .i64) (.pair (.int .i64) (.pair .bool (.int .i64))))))))) .e)) (F_laws_eqKindS k)) (E_laws_eqKind k)
theorem E_laws_eqKindS_ok (k : Nat) : SoundE Tryd.prog glob (E_laws_eqKindS k) ∧ NatE (E_laws_eqKindS k) := tab_cons (s_laws_eqKindS k) (E_laws_eqKind_ok k)
/-- laws.eqRules -/
def cx_laws_eqRules : Cx := { N := 42, G := glob, C := tys, ad := fun d => false, wk := false }
def F_laws_eqRules (k : Nat) : FArg (.c (.val (.st (.pair (.sl (.st (.pair .str (.pair (.sl (.int .i64)) (.pair (.int .i64) (.pair (.int .i64) .bool)))))) (.pair (.sl (.st (.pair .str (.pair (.int .i64) (.pair (.int .i64) (.pair (.int .i64) (.pair .bool (.int .i64)))))))) (.pair (.int .i64) (.pair (.int .i64) (.pair (.int .i64) (.pair (.int .i64) (.int .i64))))))))) (.c (.val (.st (.pair (.sl (.st (.pair .str (.pair (.sl (.int .i64)) (.pair (.int .i64) (.pair (.int .i64) .bool)))))) (.pair (.sl (.st (.pair .str (.pair (.int .i64) (.pair (.int .i64) (.pair (.int .i64) (.pair .bool (.int .i64)))))))) (.pair (.int .i64) (.pair (.int .i64) (.pair (.int .i64) (.pair (.int .i64) (.int .i64))))))))) .e)) := fun x K => laws_eqRules k x.1 x.2.1 (fun (r0 : Bool) => K [⟨.bool, r0, true⟩])
theorem s_laws_eqRules (k : Nat) : SoundF Tryd.prog glob 28 (ftab (.c (.val (.st (.pair (.sl (.st (.pair .str (.pair (.sl (.int .i64)) (.pair (.int .i64) (.pair (.int .i64) .bool)))))) (.pair (.sl (.st (.pair .str (.pair (.int .i64) (.pair (.int .i64) (.pair (.int .i64) (.pair .bool (.int .i64)))))))) (.pair (.int .i64) (.pair (.int .i64) (.pair (.int .i64) (.pair (.int .i64) (.int .i64))))))))) (.c (.val (.st (.pair (.sl (.st (.pair .str (.pair (.sl (.int .i64)) (.pair (.int .i64) (.pair (.int .i64) .bool)))))) (.pair (.sl (.st (.pair .str (.pair (.int .i64) (.pair (.int .i64) (.pair (.int .i64) (.pair .bool (.int .i64)))))))) (.pair (.int .i64) (.pair (.int .i64) (.pair (.int .i64) (.pair (.int .i64) (.int .i64))))))))) .e)) (F_laws_eqRules k)) :=
  fun_ok (cx := cx_laws_eqRules) (by kernel_rfl) ⟨types, (E_laws_eqKindS_ok k).1, (E_laws_eqKindS_ok k).2, mixed, rfl⟩ Tryd.func28 rfl (LoopsOK.nil) [] (by kernel_rfl) (fun x K => by kernel_rfl)
def E_laws_eqRules (k : Nat) : Tbl := tcons 28 (ftab (.c (.val (.st (.pair (.sl (.st (.pair .str (.pair (.sl (.int .i64)) (.pair (.int .i64) (.pair (.int .i64) .bool)))))) (.pair (.sl (.st (.pair .str (.pair (.int .i64) (.pair (.int .i64) (.pair (.int .i64) (.pair .bool (.int .i64)))))))) (.pair (.int .i64) (.pair (.int .i64) (.pair (.int .i64) (.pair (.int .i64) (.int .i64))))))))) (.c (.val (.st (.pair (.sl (.st (.pair .str (.pair (.sl (.int .i64)) (.pair (.int .i64) (.pair (.int .i64) .bool)))))) (.pair (.sl (.st (.pair .str (.pair (.int .i64) (.pair (.int .i64) (.pair (.int .i64) (.pair .bool (.int .i64)))))))) (.pair (.int .i64) (.pair (.int .i64) (.pair (.int .i64) (.pair (.int .i64) (.int .i64))))))))) .e)) (F_laws_eqRules k)) (E_laws_eqKindS k)
theorem E_laws_eqRules_ok (k : Nat) : SoundE Tryd.prog glob (E_laws_eqRules k) ∧ NatE (E_laws_eqRules k) := tab_cons (s_laws_eqRules k) (E_laws_eqKindS_ok k)
/-- laws.eqMap -/
def cx_laws_eqMap : Cx := { N := 33, G := glob, C := tys, ad := fun d => false, wk := false }
def F_laws_eqMap (k : Nat) : FArg (.c (.val (.st (.pair (.int .i64) (.pair (.int .i64) (.pair (.sl (.int .i64)) (.pair (.sl (.int .i64)) (.sl (.int .i64)))))))) (.c (.val (.st (.pair (.int .i64) (.pair (.int .i64) (.pair (.sl (.int .i64)) (.pair (.sl (.int .i64)) (.sl (.int .i64)))))))) .e)) := fun x K => laws_eqMap k x.1 x.2.1 (fun (r0 : Bool) => K [⟨.bool, r0, true⟩])
theorem s_laws_eqMap (k : Nat) : SoundF Tryd.prog glob 29 (ftab (.c (.val (.st (.pair (.int .i64) (.pair (.int .i64) (.pair (.sl (.int .i64)) (.pair (.sl (.int .i64)) (.sl (.int .i64)))))))) (.c (.val (.st (.pair (.int .i64) (.pair (.int .i64) (.pair (.sl (.int .i64)) (.pair (.sl (.int .i64)) (.sl (.int .i64)))))))) .e)) (F_laws_eqMap k)) :=
  fun_ok (cx := cx_laws_eqMap) (by kernel_rfl) ⟨types, (E_laws_eqRules_ok k).1, (E_laws_eqRules_ok k).2, mixed, rfl⟩ Tryd.func29 rfl (LoopsOK.nil) [] (by kernel_rfl) (fun x K => by kernel_rfl)
def E_laws_eqMap (k : Nat) : Tbl := tcons 29 (ftab (.c (.val (.st (.pair (.int .i64) (.pair (.int .i64) (.pair (.sl (.int .i64)) (.pair (.sl (.int .i64)) (.sl (.int .i64)))))))) (.c (.val (.st (.pair (.int .i64) (.pair (.int .i64) (.pair (.sl (.int .i64)) (.pair (.sl (.int .i64)) (.sl (.int .i64)))))))) .e)) (F_laws_eqMap k)) (E_laws_eqRules k)
theorem E_laws_eqMap_ok (k : Nat) : SoundE Tryd.prog glob (E_laws_eqMap k) ∧ NatE (E_laws_eqMap k) := tab_cons (s_laws_eqMap k) (E_laws_eqRules_ok k)
/-- laws.markText -/
def cx_laws_markText : Cx := { N := 20, G := glob, C := tys, ad := fun d => false, wk := false, dp := true }
def sp_laws_markText_l0 : LSp where
  cv := []
  ts := [(0, .val (.int .i64)), (3, .val .str)]
  ids := []
  tx := fun e => match e with | .exit i => bif Nat.beq i 0 then [3] else [] | .ret => [] | .normal => []
  ix := fun e => match e with | .exit i => bif Nat.beq i 0 then [] else [] | .ret => [] | .normal => []
def F_laws_markText_l0 (k : Nat) : LArg sp_laws_markText_l0 := fun K n x y => laws_markText_l0 k (fun (y0 : ByteArray) => K (.exit 0) (mkSt [(3, .val .str y0)] [])) n x.1 x.2.1
def LO_laws_markText_l0 (k : Nat) : LTbl := (lcons 4 (ltab sp_laws_markText_l0 (F_laws_markText_l0 k) k) lnil)
theorem lk_laws_markText_l0 (k : Nat) : LoopsOK Tryd.prog glob (E_laws_eqMap k) cx_laws_markText (LO_laws_markText_l0 k) ((4, (loopB Tryd.f125 4)) :: []) :=
  LoopsOK.cons (LoopsOK.nil) (E_laws_eqMap_ok k).2 (F := F_laws_markText_l0 k) k [] (by kernel_rfl) (by kernel_rfl) (fun K x y => rfl) (fun n x y K => by kernel_rfl)
def F_laws_markText (k : Nat) : FArg (.c (.val (.int .i64)) .e) := fun x K => laws_markText k x.1 (fun (r0 : ByteArray) => K [⟨.str, r0, true⟩])
theorem s_laws_markText (k : Nat) : SoundF Tryd.prog glob 125 (ftab (.c (.val (.int .i64)) .e) (F_laws_markText k)) :=
  fun_ok (cx := cx_laws_markText) (by kernel_rfl) ⟨types, (E_laws_eqMap_ok k).1, (E_laws_eqMap_ok k).2, mixed, rfl⟩ Tryd.func125 rfl (lk_laws_markText_l0 k) [0] (by kernel_rfl) (fun x K => by kernel_rfl)
def E_laws_markText (k : Nat) : Tbl := tcons 125 (ftab (.c (.val (.int .i64)) .e) (F_laws_markText k)) (E_laws_eqMap k)
theorem E_laws_markText_ok (k : Nat) : SoundE Tryd.prog glob (E_laws_markText k) ∧ NatE (E_laws_markText k) := tab_cons (s_laws_markText k) (E_laws_eqMap_ok k)
/-- laws.markIntS -/
def cx_laws_markIntS_in : Cx := { N := 19, G := glob, C := tys, ad := fun d => false, wk := true, dp := true }
def sp_laws_markIntS_in_l0 : LSp where
  cv := []
  ts := [(0, .own 3000000), (1, .val (.int .i64)), (5, .val (.int .i64))]
  ids := [(3000000, .row (.int .i64))]
  tx := fun e => match e with | .exit i => bif Nat.beq i 0 then [1] else [] | .ret => [] | .normal => []
  ix := fun e => match e with | .exit i => bif Nat.beq i 0 then [3000000] else [] | .ret => [] | .normal => []
def F_laws_markIntS_in_l0 (k : Nat) : LArg sp_laws_markIntS_in_l0 := fun K n x y => laws_markIntS_in_l0 k (fun (y0 : Int) (y1 : List Int) => K (.exit 0) (mkSt [(1, .val (.int .i64) y0)] [(3000000, some (.row (.int .i64) y1))])) n x.2.1 x.2.2.1 y.1
def LO_laws_markIntS_in_l0 (k : Nat) : LTbl := (lcons 2 (ltab sp_laws_markIntS_in_l0 (F_laws_markIntS_in_l0 k) k) lnil)
theorem lk_laws_markIntS_in_l0 (k : Nat) : LoopsOK Tryd.prog glob (E_laws_markText k) cx_laws_markIntS_in (LO_laws_markIntS_in_l0 k) ((2, (loopB Tryd.f32 2)) :: []) :=
  LoopsOK.cons (LoopsOK.nil) (E_laws_markText_ok k).2 (F := F_laws_markIntS_in_l0 k) k [] (by kernel_rfl) (by kernel_rfl) (fun K x y => rfl) (fun n x y K => by kernel_rfl)
def F_laws_markIntS_in (k : Nat) : FArg (.c (.val (.sl (.int .i64))) (.c (.val (.int .i64)) .e)) := fun x K => laws_markIntS_in k x.1 x.2.1 (fun (r0 : List Int) (r1 : Int) => K [⟨(.sl (.int .i64)), r0, false⟩, ⟨(.int .i64), r1, true⟩])
theorem s_laws_markIntS_in (k : Nat) : SoundI Tryd.prog glob 32 1 (ftab (.c (.val (.sl (.int .i64))) (.c (.val (.int .i64)) .e)) (F_laws_markIntS_in k)) :=
  funI_ok (m := 1) (cx := cx_laws_markIntS_in) (by kernel_rfl) ⟨types, (E_laws_markText_ok k).1, (E_laws_markText_ok k).2, mixed, rfl⟩ Tryd.func32 rfl (lk_laws_markIntS_in_l0 k) [0] (by kernel_rfl) (fun x K => by kernel_rfl)
def E_laws_markIntS_in (k : Nat) : Tbl := tcons (32 + 1000000 * 1) (ftab (.c (.val (.sl (.int .i64))) (.c (.val (.int .i64)) .e)) (F_laws_markIntS_in k)) (E_laws_markText k)
theorem E_laws_markIntS_in_ok (k : Nat) : SoundE Tryd.prog glob (E_laws_markIntS_in k) ∧ NatE (E_laws_markIntS_in k) := tab_consI (by decide) (s_laws_markIntS_in k) (E_laws_markText_ok k)
/-- laws.markTerrainS -/
def cx_laws_markTerrainS_in : Cx := { N := 51, G := glob, C := tys, ad := fun d => Nat.beq d 15, wk := true, ip := fun d => bif Nat.beq d 32 then 1 else 0, dp := true }
def sp_laws_markTerrainS_in_l0 : LSp where
  cv := []
  ts := [(0, .own 3000000), (1, .val (.int .i64)), (5, .val (.int .i64))]
  ids := [(3000000, .deep (.st (.pair .str (.pair (.sl (.int .i64)) (.pair (.int .i64) (.pair (.int .i64) .bool))))))]
  tx := fun e => match e with | .exit i => bif Nat.beq i 0 then [1] else [] | .ret => [] | .normal => []
  ix := fun e => match e with | .exit i => bif Nat.beq i 0 then [3000000] else [] | .ret => [] | .normal => []
def F_laws_markTerrainS_in_l0 (k : Nat) : LArg sp_laws_markTerrainS_in_l0 := fun K n x y => laws_markTerrainS_in_l0 k (fun (y0 : Int) (y1 : List (ByteArray × (List Int) × Int × Int × Bool)) => K (.exit 0) (mkSt [(1, .val (.int .i64) y0)] [(3000000, some (.deep (.st (.pair .str (.pair (.sl (.int .i64)) (.pair (.int .i64) (.pair (.int .i64) .bool))))) y1 0))])) n x.2.1 x.2.2.1 y.1
def LO_laws_markTerrainS_in_l0 (k : Nat) : LTbl := (lcons 2 (ltab sp_laws_markTerrainS_in_l0 (F_laws_markTerrainS_in_l0 k) k) lnil)
theorem lk_laws_markTerrainS_in_l0 (k : Nat) : LoopsOK Tryd.prog glob (E_laws_markIntS_in k) cx_laws_markTerrainS_in (LO_laws_markTerrainS_in_l0 k) ((2, (loopB Tryd.f77 2)) :: []) :=
  LoopsOK.cons (LoopsOK.nil) (E_laws_markIntS_in_ok k).2 (F := F_laws_markTerrainS_in_l0 k) k [] (by kernel_rfl) (by kernel_rfl) (fun K x y => rfl) (fun n x y K => by kernel_rfl)
def F_laws_markTerrainS_in (k : Nat) : FArg (.c (.val (.sl (.st (.pair .str (.pair (.sl (.int .i64)) (.pair (.int .i64) (.pair (.int .i64) .bool))))))) (.c (.val (.int .i64)) .e)) := fun x K => laws_markTerrainS_in k x.1 x.2.1 (fun (r0 : List (ByteArray × (List Int) × Int × Int × Bool)) (r1 : Int) => K [⟨(.sl (.st (.pair .str (.pair (.sl (.int .i64)) (.pair (.int .i64) (.pair (.int .i64) .bool)))))), r0, false⟩, ⟨(.int .i64), r1, true⟩])
theorem s_laws_markTerrainS_in (k : Nat) : SoundI Tryd.prog glob 77 1 (ftab (.c (.val (.sl (.st (.pair .str (.pair (.sl (.int .i64)) (.pair (.int .i64) (.pair (.int .i64) .bool))))))) (.c (.val (.int .i64)) .e)) (F_laws_markTerrainS_in k)) :=
  funI_ok (m := 1) (cx := cx_laws_markTerrainS_in) (by kernel_rfl) ⟨types, (E_laws_markIntS_in_ok k).1, (E_laws_markIntS_in_ok k).2, mixed, rfl⟩ Tryd.func77 rfl (lk_laws_markTerrainS_in_l0 k) [0] (by kernel_rfl) (fun x K => by kernel_rfl)
def E_laws_markTerrainS_in (k : Nat) : Tbl := tcons (77 + 1000000 * 1) (ftab (.c (.val (.sl (.st (.pair .str (.pair (.sl (.int .i64)) (.pair (.int .i64) (.pair (.int .i64) .bool))))))) (.c (.val (.int .i64)) .e)) (F_laws_markTerrainS_in k)) (E_laws_markIntS_in k)
theorem E_laws_markTerrainS_in_ok (k : Nat) : SoundE Tryd.prog glob (E_laws_markTerrainS_in k) ∧ NatE (E_laws_markTerrainS_in k) := tab_consI (by decide) (s_laws_markTerrainS_in k) (E_laws_markIntS_in_ok k)
/-- laws.markKindS -/
def cx_laws_markKindS_in : Cx := { N := 58, G := glob, C := tys, ad := fun d => Nat.beq d 15, wk := true, dp := true }
def sp_laws_markKindS_in_l0 : LSp where
  cv := []
  ts := [(0, .own 3000000), (1, .val (.int .i64)), (5, .val (.int .i64))]
  ids := [(3000000, .row (.st (.pair .str (.pair (.int .i64) (.pair (.int .i64) (.pair (.int .i64) (.pair .bool (.int .i64))))))))]
  tx := fun e => match e with | .exit i => bif Nat.beq i 0 then [1] else [] | .ret => [] | .normal => []
  ix := fun e => match e with | .exit i => bif Nat.beq i 0 then [3000000] else [] | .ret => [] | .normal => []
def F_laws_markKindS_in_l0 (k : Nat) : LArg sp_laws_markKindS_in_l0 := fun K n x y => laws_markKindS_in_l0 k (fun (y0 : Int) (y1 : List (ByteArray × Int × Int × Int × Bool × Int)) => K (.exit 0) (mkSt [(1, .val (.int .i64) y0)] [(3000000, some (.row (.st (.pair .str (.pair (.int .i64) (.pair (.int .i64) (.pair (.int .i64) (.pair .bool (.int .i64))))))) y1))])) n x.2.1 x.2.2.1 y.1
def LO_laws_markKindS_in_l0 (k : Nat) : LTbl := (lcons 2 (ltab sp_laws_markKindS_in_l0 (F_laws_markKindS_in_l0 k) k) lnil)
theorem lk_laws_markKindS_in_l0 (k : Nat) : LoopsOK Tryd.prog glob (E_laws_markTerrainS_in k) cx_laws_markKindS_in (LO_laws_markKindS_in_l0 k) ((2, (loopB Tryd.f78 2)) :: []) :=
  LoopsOK.cons (LoopsOK.nil) (E_laws_markTerrainS_in_ok k).2 (F := F_laws_markKindS_in_l0 k) k [] (by kernel_rfl) (by kernel_rfl) (fun K x y => rfl) (fun n x y K => by kernel_rfl)
def F_laws_markKindS_in (k : Nat) : FArg (.c (.val (.sl (.st (.pair .str (.pair (.int .i64) (.pair (.int .i64) (.pair (.int .i64) (.pair .bool (.int .i64))))))))) (.c (.val (.int .i64)) .e)) := fun x K => laws_markKindS_in k x.1 x.2.1 (fun (r0 : List (ByteArray × Int × Int × Int × Bool × Int)) (r1 : Int) => K [⟨(.sl (.st (.pair .str (.pair (.int .i64) (.pair (.int .i64) (.pair (.int .i64) (.pair .bool (.int .i64)))))))), r0, false⟩, ⟨(.int .i64), r1, true⟩])
theorem s_laws_markKindS_in (k : Nat) : SoundI Tryd.prog glob 78 1 (ftab (.c (.val (.sl (.st (.pair .str (.pair (.int .i64) (.pair (.int .i64) (.pair (.int .i64) (.pair .bool (.int .i64))))))))) (.c (.val (.int .i64)) .e)) (F_laws_markKindS_in k)) :=
  funI_ok (m := 1) (cx := cx_laws_markKindS_in) (by kernel_rfl) ⟨types, (E_laws_markTerrainS_in_ok k).1, (E_laws_markTerrainS_in_ok k).2, mixed, rfl⟩ Tryd.func78 rfl (lk_laws_markKindS_in_l0 k) [0] (by kernel_rfl) (fun x K => by kernel_rfl)
def E_laws_markKindS_in (k : Nat) : Tbl := tcons (78 + 1000000 * 1) (ftab (.c (.val (.sl (.st (.pair .str (.pair (.int .i64) (.pair (.int .i64) (.pair (.int .i64) (.pair .bool (.int .i64))))))))) (.c (.val (.int .i64)) .e)) (F_laws_markKindS_in k)) (E_laws_markTerrainS_in k)
theorem E_laws_markKindS_in_ok (k : Nat) : SoundE Tryd.prog glob (E_laws_markKindS_in k) ∧ NatE (E_laws_markKindS_in k) := tab_consI (by decide) (s_laws_markKindS_in k) (E_laws_markTerrainS_in_ok k)
/-- laws.markRules -/
def cx_laws_markRules_in : Cx := { N := 14, G := glob, C := tys, ad := fun d => false, wk := true, ip := fun d => bif Nat.beq d 78 then 1 else bif Nat.beq d 77 then 1 else 0, dp := true }
def F_laws_markRules_in (k : Nat) : FArg (.c (.val (.st (.pair (.sl (.st (.pair .str (.pair (.sl (.int .i64)) (.pair (.int .i64) (.pair (.int .i64) .bool)))))) (.pair (.sl (.st (.pair .str (.pair (.int .i64) (.pair (.int .i64) (.pair (.int .i64) (.pair .bool (.int .i64)))))))) (.pair (.int .i64) (.pair (.int .i64) (.pair (.int .i64) (.pair (.int .i64) (.int .i64))))))))) (.c (.val (.int .i64)) .e)) := fun x K => laws_markRules_in k x.1 x.2.1 (fun (r0 : (List (ByteArray × (List Int) × Int × Int × Bool)) × (List (ByteArray × Int × Int × Int × Bool × Int)) × Int × Int × Int × Int × Int) (r1 : Int) => K [⟨(.st (.pair (.sl (.st (.pair .str (.pair (.sl (.int .i64)) (.pair (.int .i64) (.pair (.int .i64) .bool)))))) (.pair (.sl (.st (.pair .str (.pair (.int .i64) (.pair (.int .i64) (.pair (.int .i64) (.pair .bool (.int .i64)))))))) (.pair (.int .i64) (.pair (.int .i64) (.pair (.int .i64) (.pair (.int .i64) (.int .i64)))))))), r0, false⟩, ⟨(.int .i64), r1, true⟩])
theorem s_laws_markRules_in (k : Nat) : SoundI Tryd.prog glob 30 1 (ftab (.c (.val (.st (.pair (.sl (.st (.pair .str (.pair (.sl (.int .i64)) (.pair (.int .i64) (.pair (.int .i64) .bool)))))) (.pair (.sl (.st (.pair .str (.pair (.int .i64) (.pair (.int .i64) (.pair (.int .i64) (.pair .bool (.int .i64)))))))) (.pair (.int .i64) (.pair (.int .i64) (.pair (.int .i64) (.pair (.int .i64) (.int .i64))))))))) (.c (.val (.int .i64)) .e)) (F_laws_markRules_in k)) :=
  funI_ok (m := 1) (cx := cx_laws_markRules_in) (by kernel_rfl) ⟨types, (E_laws_markKindS_in_ok k).1, (E_laws_markKindS_in_ok k).2, mixed, rfl⟩ Tryd.func30 rfl (LoopsOK.nil) [] (by kernel_rfl) (fun x K => by kernel_rfl)
def E_laws_markRules_in (k : Nat) : Tbl := tcons (30 + 1000000 * 1) (ftab (.c (.val (.st (.pair (.sl (.st (.pair .str (.pair (.sl (.int .i64)) (.pair (.int .i64) (.pair (.int .i64) .bool)))))) (.pair (.sl (.st (.pair .str (.pair (.int .i64) (.pair (.int .i64) (.pair (.int .i64) (.pair .bool (.int .i64)))))))) (.pair (.int .i64) (.pair (.int .i64) (.pair (.int .i64) (.pair (.int .i64) (.int .i64))))))))) (.c (.val (.int .i64)) .e)) (F_laws_markRules_in k)) (E_laws_markKindS_in k)
theorem E_laws_markRules_in_ok (k : Nat) : SoundE Tryd.prog glob (E_laws_markRules_in k) ∧ NatE (E_laws_markRules_in k) := tab_consI (by decide) (s_laws_markRules_in k) (E_laws_markKindS_in_ok k)
/-- laws.markMap -/
def cx_laws_markMap_in : Cx := { N := 18, G := glob, C := tys, ad := fun d => false, wk := true, ip := fun d => bif Nat.beq d 32 then 1 else 0, dp := true }
def F_laws_markMap_in (k : Nat) : FArg (.c (.val (.st (.pair (.int .i64) (.pair (.int .i64) (.pair (.sl (.int .i64)) (.pair (.sl (.int .i64)) (.sl (.int .i64)))))))) (.c (.val (.int .i64)) .e)) := fun x K => laws_markMap_in k x.1 x.2.1 (fun (r0 : Int × Int × (List Int) × (List Int) × List Int) (r1 : Int) => K [⟨(.st (.pair (.int .i64) (.pair (.int .i64) (.pair (.sl (.int .i64)) (.pair (.sl (.int .i64)) (.sl (.int .i64))))))), r0, false⟩, ⟨(.int .i64), r1, true⟩])
theorem s_laws_markMap_in (k : Nat) : SoundI Tryd.prog glob 31 1 (ftab (.c (.val (.st (.pair (.int .i64) (.pair (.int .i64) (.pair (.sl (.int .i64)) (.pair (.sl (.int .i64)) (.sl (.int .i64)))))))) (.c (.val (.int .i64)) .e)) (F_laws_markMap_in k)) :=
  funI_ok (m := 1) (cx := cx_laws_markMap_in) (by kernel_rfl) ⟨types, (E_laws_markRules_in_ok k).1, (E_laws_markRules_in_ok k).2, mixed, rfl⟩ Tryd.func31 rfl (LoopsOK.nil) [] (by kernel_rfl) (fun x K => by kernel_rfl)
def E_laws_markMap_in (k : Nat) : Tbl := tcons (31 + 1000000 * 1) (ftab (.c (.val (.st (.pair (.int .i64) (.pair (.int .i64) (.pair (.sl (.int .i64)) (.pair (.sl (.int .i64)) (.sl (.int .i64)))))))) (.c (.val (.int .i64)) .e)) (F_laws_markMap_in k)) (E_laws_markRules_in k)
theorem E_laws_markMap_in_ok (k : Nat) : SoundE Tryd.prog glob (E_laws_markMap_in k) ∧ NatE (E_laws_markMap_in k) := tab_consI (by decide) (s_laws_markMap_in k) (E_laws_markRules_in_ok k)
/-- laws.heldIntS -/
def cx_laws_heldIntS : Cx := { N := 21, G := glob, C := tys, ad := fun d => false, wk := false }
def sp_laws_heldIntS_l0 : LSp where
  cv := []
  ts := [(0, .val (.sl (.int .i64))), (1, .val (.int .i64)), (5, .val (.int .i64))]
  ids := []
  tx := fun e => match e with | .exit i => bif Nat.beq i 0 then [1] else [] | .ret => [4] | .normal => []
  ix := fun e => match e with | .exit i => bif Nat.beq i 0 then [] else [] | .ret => [] | .normal => []
def F_laws_heldIntS_l0 (k : Nat) : LArg sp_laws_heldIntS_l0 := fun K n x y => laws_heldIntS_l0 k (fun (y0 : Int) => K (.exit 0) (mkSt [(1, .val (.int .i64) y0)] [])) (fun (y0 : Int) => K (.ret) (mkSt [(4, .val (.int .i64) y0)] [])) n x.1 x.2.1 x.2.2.1
def LO_laws_heldIntS_l0 (k : Nat) : LTbl := (lcons 2 (ltab sp_laws_heldIntS_l0 (F_laws_heldIntS_l0 k) k) lnil)
theorem lk_laws_heldIntS_l0 (k : Nat) : LoopsOK Tryd.prog glob (E_laws_markMap_in k) cx_laws_heldIntS (LO_laws_heldIntS_l0 k) ((2, (loopB Tryd.f33 2)) :: []) :=
  LoopsOK.cons (LoopsOK.nil) (E_laws_markMap_in_ok k).2 (F := F_laws_heldIntS_l0 k) k [] (by kernel_rfl) (by kernel_rfl) (fun K x y => rfl) (fun n x y K => by kernel_rfl)
def F_laws_heldIntS (k : Nat) : FArg (.c (.val (.sl (.int .i64))) (.c (.val (.int .i64)) .e)) := fun x K => laws_heldIntS k x.1 x.2.1 (fun (r0 : Int) => K [⟨(.int .i64), r0, true⟩])
theorem s_laws_heldIntS (k : Nat) : SoundF Tryd.prog glob 33 (ftab (.c (.val (.sl (.int .i64))) (.c (.val (.int .i64)) .e)) (F_laws_heldIntS k)) :=
  fun_ok (cx := cx_laws_heldIntS) (by kernel_rfl) ⟨types, (E_laws_markMap_in_ok k).1, (E_laws_markMap_in_ok k).2, mixed, rfl⟩ Tryd.func33 rfl (lk_laws_heldIntS_l0 k) [0] (by kernel_rfl) (fun x K => by kernel_rfl)
def E_laws_heldIntS (k : Nat) : Tbl := tcons 33 (ftab (.c (.val (.sl (.int .i64))) (.c (.val (.int .i64)) .e)) (F_laws_heldIntS k)) (E_laws_markMap_in k)
theorem E_laws_heldIntS_ok (k : Nat) : SoundE Tryd.prog glob (E_laws_heldIntS k) ∧ NatE (E_laws_heldIntS k) := tab_cons (s_laws_heldIntS k) (E_laws_markMap_in_ok k)
/-- laws.FnExactMissingTerrains -/
def cx_laws_FnExactMissingTerrains : Cx := { N := 119, G := glob, C := tys, ad := fun d => Nat.beq d 19 || Nat.beq d 24 || Nat.beq d 36 || Nat.beq d 38 || Nat.beq d 42 || Nat.beq d 47 || Nat.beq d 75 || Nat.beq d 88 || Nat.beq d 99 || Nat.beq d 104 || Nat.beq d 113, wk := false, ip := fun d => bif Nat.beq d 32 then 1 else bif Nat.beq d 31 then 1 else bif Nat.beq d 30 then 1 else 0, dp := true }
def F_laws_FnExactMissingTerrains (k : Nat) : FArg (.c (.val (.st (.pair (.sl (.st (.pair .str (.pair (.sl (.int .i64)) (.pair (.int .i64) (.pair (.int .i64) .bool)))))) (.pair (.sl (.st (.pair .str (.pair (.int .i64) (.pair (.int .i64) (.pair (.int .i64) (.pair .bool (.int .i64)))))))) (.pair (.int .i64) (.pair (.int .i64) (.pair (.int .i64) (.pair (.int .i64) (.int .i64))))))))) (.c (.val (.st (.pair (.int .i64) (.pair (.int .i64) (.pair (.sl (.int .i64)) (.pair (.sl (.int .i64)) (.sl (.int .i64)))))))) .e)) := fun x K => laws_FnExactMissingTerrains k x.1 x.2.1 (fun (r0 : Bool) => K [⟨.bool, r0, true⟩])
theorem q_laws_FnExactMissingTerrains (k : Nat) (c0 : ((List (ByteArray × (List Int) × Int × Int × Bool)) × (List (ByteArray × Int × Int × Int × Bool × Int)) × Int × Int × Int × Int × Int) → Int → ∀ {R : Type}, (Int → Option R) → Option R) (c1 : (Int × Int × (List Int) × (List Int) × List Int) → Int → ∀ {R : Type}, (Int → Option R) → Option R) (c2 : ((List (ByteArray × (List Int) × Int × Int × Bool)) × (List (ByteArray × Int × Int × Int × Bool × Int)) × Int × Int × Int × Int × Int) → ∀ {R : Type}, (((List (ByteArray × (List Int) × Int × Int × Bool)) × (List (ByteArray × Int × Int × Int × Bool × Int)) × Int × Int × Int × Int × Int) → Option R) → Option R) (c3 : (Int × Int × (List Int) × (List Int) × List Int) → ∀ {R : Type}, ((Int × Int × (List Int) × (List Int) × List Int) → Option R) → Option R) (c4 : ((List (ByteArray × (List Int) × Int × Int × Bool)) × (List (ByteArray × Int × Int × Int × Bool × Int)) × Int × Int × Int × Int × Int) → (Int × Int × (List Int) × (List Int) × List Int) → ∀ {R : Type}, ((List Int) → Bool → Option R) → Option R) (c5 : ((List (ByteArray × (List Int) × Int × Int × Bool)) × (List (ByteArray × Int × Int × Int × Bool × Int)) × Int × Int × Int × Int × Int) → (Int × Int × (List Int) × (List Int) × List Int) → ∀ {R : Type}, ((List Int) → Bool → Option R) → Option R) (c6 : (List Int) → (List Int) → ∀ {R : Type}, (Bool → Option R) → Option R) (c7 : ((List (ByteArray × (List Int) × Int × Int × Bool)) × (List (ByteArray × Int × Int × Int × Bool × Int)) × Int × Int × Int × Int × Int) → ((List (ByteArray × (List Int) × Int × Int × Bool)) × (List (ByteArray × Int × Int × Int × Bool × Int)) × Int × Int × Int × Int × Int) → ∀ {R : Type}, (Bool → Option R) → Option R) (c8 : (Int × Int × (List Int) × (List Int) × List Int) → (Int × Int × (List Int) × (List Int) × List Int) → ∀ {R : Type}, (Bool → Option R) → Option R) (c9 : ((List (ByteArray × (List Int) × Int × Int × Bool)) × (List (ByteArray × Int × Int × Int × Bool × Int)) × Int × Int × Int × Int × Int) → Int → ∀ {R : Type}, (((List (ByteArray × (List Int) × Int × Int × Bool)) × (List (ByteArray × Int × Int × Int × Bool × Int)) × Int × Int × Int × Int × Int) → Int → Option R) → Option R) (c10 : (Int × Int × (List Int) × (List Int) × List Int) → Int → ∀ {R : Type}, ((Int × Int × (List Int) × (List Int) × List Int) → Int → Option R) → Option R) (c11 : (List Int) → Int → ∀ {R : Type}, ((List Int) → Int → Option R) → Option R) (c12 : (List Int) → Int → ∀ {R : Type}, (Int → Option R) → Option R) {R : Type} (x : ((.c (.val (.st (.pair (.sl (.st (.pair .str (.pair (.sl (.int .i64)) (.pair (.int .i64) (.pair (.int .i64) .bool)))))) (.pair (.sl (.st (.pair .str (.pair (.int .i64) (.pair (.int .i64) (.pair (.int .i64) (.pair .bool (.int .i64)))))))) (.pair (.int .i64) (.pair (.int .i64) (.pair (.int .i64) (.pair (.int .i64) (.int .i64))))))))) (.c (.val (.st (.pair (.int .i64) (.pair (.int .i64) (.pair (.sl (.int .i64)) (.pair (.sl (.int .i64)) (.sl (.int .i64)))))))) .e)) : Sh).den) (K : List Res → Option R) : (fun (x : (List (ByteArray × (List Int) × Int × Int × Bool)) × (List (ByteArray × Int × Int × Int × Bool × Int)) × Int × Int × Int × Int × Int) (x0 : Int × Int × (List Int) × (List Int) × List Int) (K : Bool → Option R) =>
    c0 x (1048576 : Int) fun (r : Int) =>
    bif decide (r < (0 : Int)) then
      K true
    else
      c1 x0 r fun (r0 : Int) =>
      bif decide (r0 < (0 : Int)) then
        K true
      else
        c2 x fun (r1 : (List (ByteArray × (List Int) × Int × Int × Bool)) × (List (ByteArray × Int × Int × Int × Bool × Int)) × Int × Int × Int × Int × Int) =>
        c3 x0 fun (r2 : Int × Int × (List Int) × (List Int) × List Int) =>
        c4 r1 r2 fun (r3 : List Int) (r4 : Bool) =>
        c2 x fun (r5 : (List (ByteArray × (List Int) × Int × Int × Bool)) × (List (ByteArray × Int × Int × Int × Bool × Int)) × Int × Int × Int × Int × Int) =>
        c3 x0 fun (r6 : Int × Int × (List Int) × (List Int) × List Int) =>
        c5 r5 r6 fun (r7 : List Int) (r8 : Bool) =>
        c6 r7 r3 fun (r9 : Bool) =>
        bif !r9 then
          K false
        else
          bif !(r8 == r4) then
            K false
          else
            c2 x fun (r10 : (List (ByteArray × (List Int) × Int × Int × Bool)) × (List (ByteArray × Int × Int × Int × Bool × Int)) × Int × Int × Int × Int × Int) =>
            c7 r5 r10 fun (r11 : Bool) =>
            bif !r11 then
              K false
            else
              c3 x0 fun (r12 : Int × Int × (List Int) × (List Int) × List Int) =>
              c8 r6 r12 fun (r13 : Bool) =>
              bif !r13 then
                K false
              else
                c9 r5 (1 : Int) fun (t : (List (ByteArray × (List Int) × Int × Int × Bool)) × (List (ByteArray × Int × Int × Int × Bool × Int)) × Int × Int × Int × Int × Int) (r14 : Int) =>
                c10 r6 r14 fun (t0 : Int × Int × (List Int) × (List Int) × List Int) (r15 : Int) =>
                bif decide (r15 < (0 : Int)) then
                  K false
                else
                  c6 r7 r3 fun (r16 : Bool) =>
                  bif !r16 then
                    K false
                  else
                    bif !(r8 == r4) then
                      K false
                    else
                      c11 r7 (1 : Int) fun (t1 : List Int) (r17 : Int) =>
                      c12 t1 (1 : Int) fun (r18 : Int) =>
                      bif decide (r18 < (0 : Int)) then
                        K false
                      else
                        bif !(decide (r18 = r17)) then
                          K false
                        else
                          c2 x fun (r19 : (List (ByteArray × (List Int) × Int × Int × Bool)) × (List (ByteArray × Int × Int × Int × Bool × Int)) × Int × Int × Int × Int × Int) =>
                          c3 x0 fun (r20 : Int × Int × (List Int) × (List Int) × List Int) =>
                          c5 r19 r20 fun (r21 : List Int) (r22 : Bool) =>
                          c6 r21 r3 fun (r23 : Bool) =>
                          bif !r23 then
                            K false
                          else
                            bif !(r22 == r4) then
                              K false
                            else
                              c12 t1 (1 : Int) fun (r24 : Int) =>
                              bif decide (r24 < (0 : Int)) then
                                K false
                              else
                                bif !(decide (r24 = r17)) then
                                  K false
                                else
                                  K true) x.1 x.2.1 (fun (r0 : Bool) => K [⟨.bool, r0, true⟩]) = evFun ((tcons 21 (ftab (.c (.val (.st (.pair (.sl (.st (.pair .str (.pair (.sl (.int .i64)) (.pair (.int .i64) (.pair (.int .i64) .bool)))))) (.pair (.sl (.st (.pair .str (.pair (.int .i64) (.pair (.int .i64) (.pair (.int .i64) (.pair .bool (.int .i64)))))))) (.pair (.int .i64) (.pair (.int .i64) (.pair (.int .i64) (.pair (.int .i64) (.int .i64))))))))) (.c (.val (.int .i64)) .e)) fun x K => c0 x.1 x.2.1 (fun (r0 : Int) => K [⟨(.int .i64), r0, true⟩])) (tcons 22 (ftab (.c (.val (.st (.pair (.int .i64) (.pair (.int .i64) (.pair (.sl (.int .i64)) (.pair (.sl (.int .i64)) (.sl (.int .i64)))))))) (.c (.val (.int .i64)) .e)) fun x K => c1 x.1 x.2.1 (fun (r0 : Int) => K [⟨(.int .i64), r0, true⟩])) (tcons 24 (ftab (.c (.val (.st (.pair (.sl (.st (.pair .str (.pair (.sl (.int .i64)) (.pair (.int .i64) (.pair (.int .i64) .bool)))))) (.pair (.sl (.st (.pair .str (.pair (.int .i64) (.pair (.int .i64) (.pair (.int .i64) (.pair .bool (.int .i64)))))))) (.pair (.int .i64) (.pair (.int .i64) (.pair (.int .i64) (.pair (.int .i64) (.int .i64))))))))) .e) fun x K => c2 x.1 (fun (r0 : (List (ByteArray × (List Int) × Int × Int × Bool)) × (List (ByteArray × Int × Int × Int × Bool × Int)) × Int × Int × Int × Int × Int) => K [⟨(.st (.pair (.sl (.st (.pair .str (.pair (.sl (.int .i64)) (.pair (.int .i64) (.pair (.int .i64) .bool)))))) (.pair (.sl (.st (.pair .str (.pair (.int .i64) (.pair (.int .i64) (.pair (.int .i64) (.pair .bool (.int .i64)))))))) (.pair (.int .i64) (.pair (.int .i64) (.pair (.int .i64) (.pair (.int .i64) (.int .i64)))))))), r0, true⟩])) (tcons 25 (ftab (.c (.val (.st (.pair (.int .i64) (.pair (.int .i64) (.pair (.sl (.int .i64)) (.pair (.sl (.int .i64)) (.sl (.int .i64)))))))) .e) fun x K => c3 x.1 (fun (r0 : Int × Int × (List Int) × (List Int) × List Int) => K [⟨(.st (.pair (.int .i64) (.pair (.int .i64) (.pair (.sl (.int .i64)) (.pair (.sl (.int .i64)) (.sl (.int .i64))))))), r0, true⟩])) (tcons 23 (ftab (.c (.val (.st (.pair (.sl (.st (.pair .str (.pair (.sl (.int .i64)) (.pair (.int .i64) (.pair (.int .i64) .bool)))))) (.pair (.sl (.st (.pair .str (.pair (.int .i64) (.pair (.int .i64) (.pair (.int .i64) (.pair .bool (.int .i64)))))))) (.pair (.int .i64) (.pair (.int .i64) (.pair (.int .i64) (.pair (.int .i64) (.int .i64))))))))) (.c (.val (.st (.pair (.int .i64) (.pair (.int .i64) (.pair (.sl (.int .i64)) (.pair (.sl (.int .i64)) (.sl (.int .i64)))))))) .e)) fun x K => c4 x.1 x.2.1 (fun (r0 : List Int) (r1 : Bool) => K [⟨(.sl (.int .i64)), r0, false⟩, ⟨.bool, r1, true⟩])) (tcons 26 (ftab (.c (.val (.st (.pair (.sl (.st (.pair .str (.pair (.sl (.int .i64)) (.pair (.int .i64) (.pair (.int .i64) .bool)))))) (.pair (.sl (.st (.pair .str (.pair (.int .i64) (.pair (.int .i64) (.pair (.int .i64) (.pair .bool (.int .i64)))))))) (.pair (.int .i64) (.pair (.int .i64) (.pair (.int .i64) (.pair (.int .i64) (.int .i64))))))))) (.c (.val (.st (.pair (.int .i64) (.pair (.int .i64) (.pair (.sl (.int .i64)) (.pair (.sl (.int .i64)) (.sl (.int .i64)))))))) .e)) fun x K => c5 x.1 x.2.1 (fun (r0 : List Int) (r1 : Bool) => K [⟨(.sl (.int .i64)), r0, true⟩, ⟨.bool, r1, true⟩])) (tcons 27 (ftab (.c (.val (.sl (.int .i64))) (.c (.val (.sl (.int .i64))) .e)) fun x K => c6 x.1 x.2.1 (fun (r0 : Bool) => K [⟨.bool, r0, true⟩])) (tcons 28 (ftab (.c (.val (.st (.pair (.sl (.st (.pair .str (.pair (.sl (.int .i64)) (.pair (.int .i64) (.pair (.int .i64) .bool)))))) (.pair (.sl (.st (.pair .str (.pair (.int .i64) (.pair (.int .i64) (.pair (.int .i64) (.pair .bool (.int .i64)))))))) (.pair (.int .i64) (.pair (.int .i64) (.pair (.int .i64) (.pair (.int .i64) (.int .i64))))))))) (.c (.val (.st (.pair (.sl (.st (.pair .str (.pair (.sl (.int .i64)) (.pair (.int .i64) (.pair (.int .i64) .bool)))))) (.pair (.sl (.st (.pair .str (.pair (.int .i64) (.pair (.int .i64) (.pair (.int .i64) (.pair .bool (.int .i64)))))))) (.pair (.int .i64) (.pair (.int .i64) (.pair (.int .i64) (.pair (.int .i64) (.int .i64))))))))) .e)) fun x K => c7 x.1 x.2.1 (fun (r0 : Bool) => K [⟨.bool, r0, true⟩])) (tcons 29 (ftab (.c (.val (.st (.pair (.int .i64) (.pair (.int .i64) (.pair (.sl (.int .i64)) (.pair (.sl (.int .i64)) (.sl (.int .i64)))))))) (.c (.val (.st (.pair (.int .i64) (.pair (.int .i64) (.pair (.sl (.int .i64)) (.pair (.sl (.int .i64)) (.sl (.int .i64)))))))) .e)) fun x K => c8 x.1 x.2.1 (fun (r0 : Bool) => K [⟨.bool, r0, true⟩])) (tcons (30 + 1000000 * 1) (ftab (.c (.val (.st (.pair (.sl (.st (.pair .str (.pair (.sl (.int .i64)) (.pair (.int .i64) (.pair (.int .i64) .bool)))))) (.pair (.sl (.st (.pair .str (.pair (.int .i64) (.pair (.int .i64) (.pair (.int .i64) (.pair .bool (.int .i64)))))))) (.pair (.int .i64) (.pair (.int .i64) (.pair (.int .i64) (.pair (.int .i64) (.int .i64))))))))) (.c (.val (.int .i64)) .e)) fun x K => c9 x.1 x.2.1 (fun (r0 : (List (ByteArray × (List Int) × Int × Int × Bool)) × (List (ByteArray × Int × Int × Int × Bool × Int)) × Int × Int × Int × Int × Int) (r1 : Int) => K [⟨(.st (.pair (.sl (.st (.pair .str (.pair (.sl (.int .i64)) (.pair (.int .i64) (.pair (.int .i64) .bool)))))) (.pair (.sl (.st (.pair .str (.pair (.int .i64) (.pair (.int .i64) (.pair (.int .i64) (.pair .bool (.int .i64)))))))) (.pair (.int .i64) (.pair (.int .i64) (.pair (.int .i64) (.pair (.int .i64) (.int .i64)))))))), r0, false⟩, ⟨(.int .i64), r1, true⟩])) (tcons (31 + 1000000 * 1) (ftab (.c (.val (.st (.pair (.int .i64) (.pair (.int .i64) (.pair (.sl (.int .i64)) (.pair (.sl (.int .i64)) (.sl (.int .i64)))))))) (.c (.val (.int .i64)) .e)) fun x K => c10 x.1 x.2.1 (fun (r0 : Int × Int × (List Int) × (List Int) × List Int) (r1 : Int) => K [⟨(.st (.pair (.int .i64) (.pair (.int .i64) (.pair (.sl (.int .i64)) (.pair (.sl (.int .i64)) (.sl (.int .i64))))))), r0, false⟩, ⟨(.int .i64), r1, true⟩])) (tcons (32 + 1000000 * 1) (ftab (.c (.val (.sl (.int .i64))) (.c (.val (.int .i64)) .e)) fun x K => c11 x.1 x.2.1 (fun (r0 : List Int) (r1 : Int) => K [⟨(.sl (.int .i64)), r0, false⟩, ⟨(.int .i64), r1, true⟩])) (tcons 33 (ftab (.c (.val (.sl (.int .i64))) (.c (.val (.int .i64)) .e)) fun x K => c12 x.1 x.2.1 (fun (r0 : Int) => K [⟨(.int .i64), r0, true⟩])) tnil)))))))))))))) lnil cx_laws_FnExactMissingTerrains Tryd.f5 (give (.c (.val (.st (.pair (.sl (.st (.pair .str (.pair (.sl (.int .i64)) (.pair (.int .i64) (.pair (.int .i64) .bool)))))) (.pair (.sl (.st (.pair .str (.pair (.int .i64) (.pair (.int .i64) (.pair (.int .i64) (.pair .bool (.int .i64)))))))) (.pair (.int .i64) (.pair (.int .i64) (.pair (.int .i64) (.pair (.int .i64) (.int .i64))))))))) (.c (.val (.st (.pair (.int .i64) (.pair (.int .i64) (.pair (.sl (.int .i64)) (.pair (.sl (.int .i64)) (.sl (.int .i64)))))))) .e)) x) K := by kernel_rfl
theorem e_laws_FnExactMissingTerrains (k : Nat) : SoundE Tryd.prog glob (tcons 21 (ftab (.c (.val (.st (.pair (.sl (.st (.pair .str (.pair (.sl (.int .i64)) (.pair (.int .i64) (.pair (.int .i64) .bool)))))) (.pair (.sl (.st (.pair .str (.pair (.int .i64) (.pair (.int .i64) (.pair (.int .i64) (.pair .bool (.int .i64)))))))) (.pair (.int .i64) (.pair (.int .i64) (.pair (.int .i64) (.pair (.int .i64) (.int .i64))))))))) (.c (.val (.int .i64)) .e)) (F_laws_szRules k)) (tcons 22 (ftab (.c (.val (.st (.pair (.int .i64) (.pair (.int .i64) (.pair (.sl (.int .i64)) (.pair (.sl (.int .i64)) (.sl (.int .i64)))))))) (.c (.val (.int .i64)) .e)) (F_laws_szMap k)) (tcons 24 (ftab (.c (.val (.st (.pair (.sl (.st (.pair .str (.pair (.sl (.int .i64)) (.pair (.int .i64) (.pair (.int .i64) .bool)))))) (.pair (.sl (.st (.pair .str (.pair (.int .i64) (.pair (.int .i64) (.pair (.int .i64) (.pair .bool (.int .i64)))))))) (.pair (.int .i64) (.pair (.int .i64) (.pair (.int .i64) (.pair (.int .i64) (.int .i64))))))))) .e) (F_laws_toRules k)) (tcons 25 (ftab (.c (.val (.st (.pair (.int .i64) (.pair (.int .i64) (.pair (.sl (.int .i64)) (.pair (.sl (.int .i64)) (.sl (.int .i64)))))))) .e) (F_laws_toMap k)) (tcons 23 (ftab (.c (.val (.st (.pair (.sl (.st (.pair .str (.pair (.sl (.int .i64)) (.pair (.int .i64) (.pair (.int .i64) .bool)))))) (.pair (.sl (.st (.pair .str (.pair (.int .i64) (.pair (.int .i64) (.pair (.int .i64) (.pair .bool (.int .i64)))))))) (.pair (.int .i64) (.pair (.int .i64) (.pair (.int .i64) (.pair (.int .i64) (.int .i64))))))))) (.c (.val (.st (.pair (.int .i64) (.pair (.int .i64) (.pair (.sl (.int .i64)) (.pair (.sl (.int .i64)) (.sl (.int .i64)))))))) .e)) (F_spec_MissingTerrains k)) (tcons 26 (ftab (.c (.val (.st (.pair (.sl (.st (.pair .str (.pair (.sl (.int .i64)) (.pair (.int .i64) (.pair (.int .i64) .bool)))))) (.pair (.sl (.st (.pair .str (.pair (.int .i64) (.pair (.int .i64) (.pair (.int .i64) (.pair .bool (.int .i64)))))))) (.pair (.int .i64) (.pair (.int .i64) (.pair (.int .i64) (.pair (.int .i64) (.int .i64))))))))) (.c (.val (.st (.pair (.int .i64) (.pair (.int .i64) (.pair (.sl (.int .i64)) (.pair (.sl (.int .i64)) (.sl (.int .i64)))))))) .e)) (F_impl_MissingTerrains k)) (tcons 27 (ftab (.c (.val (.sl (.int .i64))) (.c (.val (.sl (.int .i64))) .e)) (F_laws_eqIntS k)) (tcons 28 (ftab (.c (.val (.st (.pair (.sl (.st (.pair .str (.pair (.sl (.int .i64)) (.pair (.int .i64) (.pair (.int .i64) .bool)))))) (.pair (.sl (.st (.pair .str (.pair (.int .i64) (.pair (.int .i64) (.pair (.int .i64) (.pair .bool (.int .i64)))))))) (.pair (.int .i64) (.pair (.int .i64) (.pair (.int .i64) (.pair (.int .i64) (.int .i64))))))))) (.c (.val (.st (.pair (.sl (.st (.pair .str (.pair (.sl (.int .i64)) (.pair (.int .i64) (.pair (.int .i64) .bool)))))) (.pair (.sl (.st (.pair .str (.pair (.int .i64) (.pair (.int .i64) (.pair (.int .i64) (.pair .bool (.int .i64)))))))) (.pair (.int .i64) (.pair (.int .i64) (.pair (.int .i64) (.pair (.int .i64) (.int .i64))))))))) .e)) (F_laws_eqRules k)) (tcons 29 (ftab (.c (.val (.st (.pair (.int .i64) (.pair (.int .i64) (.pair (.sl (.int .i64)) (.pair (.sl (.int .i64)) (.sl (.int .i64)))))))) (.c (.val (.st (.pair (.int .i64) (.pair (.int .i64) (.pair (.sl (.int .i64)) (.pair (.sl (.int .i64)) (.sl (.int .i64)))))))) .e)) (F_laws_eqMap k)) (tcons (30 + 1000000 * 1) (ftab (.c (.val (.st (.pair (.sl (.st (.pair .str (.pair (.sl (.int .i64)) (.pair (.int .i64) (.pair (.int .i64) .bool)))))) (.pair (.sl (.st (.pair .str (.pair (.int .i64) (.pair (.int .i64) (.pair (.int .i64) (.pair .bool (.int .i64)))))))) (.pair (.int .i64) (.pair (.int .i64) (.pair (.int .i64) (.pair (.int .i64) (.int .i64))))))))) (.c (.val (.int .i64)) .e)) (F_laws_markRules_in k)) (tcons (31 + 1000000 * 1) (ftab (.c (.val (.st (.pair (.int .i64) (.pair (.int .i64) (.pair (.sl (.int .i64)) (.pair (.sl (.int .i64)) (.sl (.int .i64)))))))) (.c (.val (.int .i64)) .e)) (F_laws_markMap_in k)) (tcons (32 + 1000000 * 1) (ftab (.c (.val (.sl (.int .i64))) (.c (.val (.int .i64)) .e)) (F_laws_markIntS_in k)) (tcons 33 (ftab (.c (.val (.sl (.int .i64))) (.c (.val (.int .i64)) .e)) (F_laws_heldIntS k)) tnil))))))))))))) ∧ NatE (tcons 21 (ftab (.c (.val (.st (.pair (.sl (.st (.pair .str (.pair (.sl (.int .i64)) (.pair (.int .i64) (.pair (.int .i64) .bool)))))) (.pair (.sl (.st (.pair .str (.pair (.int .i64) (.pair (.int .i64) (.pair (.int .i64) (.pair .bool (.int .i64)))))))) (.pair (.int .i64) (.pair (.int .i64) (.pair (.int .i64) (.pair (.int .i64) (.int .i64))))))))) (.c (.val (.int .i64)) .e)) (F_laws_szRules k)) (tcons 22 (ftab (.c (.val (.st (.pair (.int .i64) (.pair (.int .i64) (.pair (.sl (.int .i64)) (.pair (.sl (.int .i64)) (.sl (.int .i64)))))))) (.c (.val (.int .i64)) .e)) (F_laws_szMap k)) (tcons 24 (ftab (.c (.val (.st (.pair (.sl (.st (.pair .str (.pair (.sl (.int .i64)) (.pair (.int .i64) (.pair (.int .i64) .bool)))))) (.pair (.sl (.st (.pair .str (.pair (.int .i64) (.pair (.int .i64) (.pair (.int .i64) (.pair .bool (.int .i64)))))))) (.pair (.int .i64) (.pair (.int .i64) (.pair (.int .i64) (.pair (.int .i64) (.int .i64))))))))) .e) (F_laws_toRules k)) (tcons 25 (ftab (.c (.val (.st (.pair (.int .i64) (.pair (.int .i64) (.pair (.sl (.int .i64)) (.pair (.sl (.int .i64)) (.sl (.int .i64)))))))) .e) (F_laws_toMap k)) (tcons 23 (ftab (.c (.val (.st (.pair (.sl (.st (.pair .str (.pair (.sl (.int .i64)) (.pair (.int .i64) (.pair (.int .i64) .bool)))))) (.pair (.sl (.st (.pair .str (.pair (.int .i64) (.pair (.int .i64) (.pair (.int .i64) (.pair .bool (.int .i64)))))))) (.pair (.int .i64) (.pair (.int .i64) (.pair (.int .i64) (.pair (.int .i64) (.int .i64))))))))) (.c (.val (.st (.pair (.int .i64) (.pair (.int .i64) (.pair (.sl (.int .i64)) (.pair (.sl (.int .i64)) (.sl (.int .i64)))))))) .e)) (F_spec_MissingTerrains k)) (tcons 26 (ftab (.c (.val (.st (.pair (.sl (.st (.pair .str (.pair (.sl (.int .i64)) (.pair (.int .i64) (.pair (.int .i64) .bool)))))) (.pair (.sl (.st (.pair .str (.pair (.int .i64) (.pair (.int .i64) (.pair (.int .i64) (.pair .bool (.int .i64)))))))) (.pair (.int .i64) (.pair (.int .i64) (.pair (.int .i64) (.pair (.int .i64) (.int .i64))))))))) (.c (.val (.st (.pair (.int .i64) (.pair (.int .i64) (.pair (.sl (.int .i64)) (.pair (.sl (.int .i64)) (.sl (.int .i64)))))))) .e)) (F_impl_MissingTerrains k)) (tcons 27 (ftab (.c (.val (.sl (.int .i64))) (.c (.val (.sl (.int .i64))) .e)) (F_laws_eqIntS k)) (tcons 28 (ftab (.c (.val (.st (.pair (.sl (.st (.pair .str (.pair (.sl (.int .i64)) (.pair (.int .i64) (.pair (.int .i64) .bool)))))) (.pair (.sl (.st (.pair .str (.pair (.int .i64) (.pair (.int .i64) (.pair (.int .i64) (.pair .bool (.int .i64)))))))) (.pair (.int .i64) (.pair (.int .i64) (.pair (.int .i64) (.pair (.int .i64) (.int .i64))))))))) (.c (.val (.st (.pair (.sl (.st (.pair .str (.pair (.sl (.int .i64)) (.pair (.int .i64) (.pair (.int .i64) .bool)))))) (.pair (.sl (.st (.pair .str (.pair (.int .i64) (.pair (.int .i64) (.pair (.int .i64) (.pair .bool (.int .i64)))))))) (.pair (.int .i64) (.pair (.int .i64) (.pair (.int .i64) (.pair (.int .i64) (.int .i64))))))))) .e)) (F_laws_eqRules k)) (tcons 29 (ftab (.c (.val (.st (.pair (.int .i64) (.pair (.int .i64) (.pair (.sl (.int .i64)) (.pair (.sl (.int .i64)) (.sl (.int .i64)))))))) (.c (.val (.st (.pair (.int .i64) (.pair (.int .i64) (.pair (.sl (.int .i64)) (.pair (.sl (.int .i64)) (.sl (.int .i64)))))))) .e)) (F_laws_eqMap k)) (tcons (30 + 1000000 * 1) (ftab (.c (.val (.st (.pair (.sl (.st (.pair .str (.pair (.sl (.int .i64)) (.pair (.int .i64) (.pair (.int .i64) .bool)))))) (.pair (.sl (.st (.pair .str (.pair (.int .i64) (.pair (.int .i64) (.pair (.int .i64) (.pair .bool (.int .i64)))))))) (.pair (.int .i64) (.pair (.int .i64) (.pair (.int .i64) (.pair (.int .i64) (.int .i64))))))))) (.c (.val (.int .i64)) .e)) (F_laws_markRules_in k)) (tcons (31 + 1000000 * 1) (ftab (.c (.val (.st (.pair (.int .i64) (.pair (.int .i64) (.pair (.sl (.int .i64)) (.pair (.sl (.int .i64)) (.sl (.int .i64)))))))) (.c (.val (.int .i64)) .e)) (F_laws_markMap_in k)) (tcons (32 + 1000000 * 1) (ftab (.c (.val (.sl (.int .i64))) (.c (.val (.int .i64)) .e)) (F_laws_markIntS_in k)) (tcons 33 (ftab (.c (.val (.sl (.int .i64))) (.c (.val (.int .i64)) .e)) (F_laws_heldIntS k)) tnil))))))))))))) := (tab_cons (s_laws_szRules k) (tab_cons (s_laws_szMap k) (tab_cons (s_laws_toRules k) (tab_cons (s_laws_toMap k) (tab_cons (s_spec_MissingTerrains k) (tab_cons (s_impl_MissingTerrains k) (tab_cons (s_laws_eqIntS k) (tab_cons (s_laws_eqRules k) (tab_cons (s_laws_eqMap k) (tab_consI (by decide) (s_laws_markRules_in k) (tab_consI (by decide) (s_laws_markMap_in k) (tab_consI (by decide) (s_laws_markIntS_in k) (tab_cons (s_laws_heldIntS k) e0)))))))))))))
theorem s_laws_FnExactMissingTerrains (k : Nat) : SoundF Tryd.prog glob 5 (ftab (.c (.val (.st (.pair (.sl (.st (.pair .str (.pair (.sl (.int .i64)) (.pair (.int .i64) (.pair (.int .i64) .bool)))))) (.pair (.sl (.st (.pair .str (.pair (.int .i64) (.pair (.int .i64) (.pair (.int .i64) (.pair .bool (.int .i64)))))))) (.pair (.int .i64) (.pair (.int .i64) (.pair (.int .i64) (.pair (.int .i64) (.int .i64))))))))) (.c (.val (.st (.pair (.int .i64) (.pair (.int .i64) (.pair (.sl (.int .i64)) (.pair (.sl (.int .i64)) (.sl (.int .i64)))))))) .e)) (F_laws_FnExactMissingTerrains k)) :=
  fun_ok (cx := cx_laws_FnExactMissingTerrains) (by kernel_rfl) ⟨types, (e_laws_FnExactMissingTerrains k).1, (e_laws_FnExactMissingTerrains k).2, mixed, rfl⟩ Tryd.func5 rfl (LoopsOK.nil) [] (by kernel_rfl) (fun x K => q_laws_FnExactMissingTerrains k (fun a0 a1 {_} K => laws_szRules k a0 a1 K) (fun a0 a1 {_} K => laws_szMap a0 a1 K) (fun a0 {_} K => laws_toRules k a0 K) (fun a0 {_} K => laws_toMap k a0 K) (fun a0 a1 {_} K => spec_MissingTerrains k a0 a1 K) (fun a0 a1 {_} K => impl_MissingTerrains k a0 a1 K) (fun a0 a1 {_} K => laws_eqIntS k a0 a1 K) (fun a0 a1 {_} K => laws_eqRules k a0 a1 K) (fun a0 a1 {_} K => laws_eqMap k a0 a1 K) (fun a0 a1 {_} K => laws_markRules_in k a0 a1 K) (fun a0 a1 {_} K => laws_markMap_in k a0 a1 K) (fun a0 a1 {_} K => laws_markIntS_in k a0 a1 K) (fun a0 a1 {_} K => laws_heldIntS k a0 a1 K) x K)
def E_laws_FnExactMissingTerrains (k : Nat) : Tbl := tcons 5 (ftab (.c (.val (.st (.pair (.sl (.st (.pair .str (.pair (.sl (.int .i64)) (.pair (.int .i64) (.pair (.int .i64) .bool)))))) (.pair (.sl (.st (.pair .str (.pair (.int .i64) (.pair (.int .i64) (.pair (.int .i64) (.pair .bool (.int .i64)))))))) (.pair (.int .i64) (.pair (.int .i64) (.pair (.int .i64) (.pair (.int .i64) (.int .i64))))))))) (.c (.val (.st (.pair (.int .i64) (.pair (.int .i64) (.pair (.sl (.int .i64)) (.pair (.sl (.int .i64)) (.sl (.int .i64)))))))) .e)) (F_laws_FnExactMissingTerrains k)) (E_laws_heldIntS k)
theorem E_laws_FnExactMissingTerrains_ok (k : Nat) : SoundE Tryd.prog glob (E_laws_FnExactMissingTerrains k) ∧ NatE (E_laws_FnExactMissingTerrains k) := tab_cons (s_laws_FnExactMissingTerrains k) (E_laws_heldIntS_ok k)
end Go.Proofs.YtbfbeaghmlkjkaaDoor.TieMissingTerrains
