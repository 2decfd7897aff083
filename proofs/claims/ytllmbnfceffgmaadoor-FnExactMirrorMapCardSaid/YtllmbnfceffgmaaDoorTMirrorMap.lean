import Derived.Test.YtllmbnfceffgmaaDoorEv3
import Derived.Test.YtllmbnfceffgmaaDoorLg1
import Derived.Test.YtllmbnfceffgmaaDoorShelf
import Derived.KernelRfl
import Derived.Eval
import Derived.Test.YtllmbnfceffgmaaDoorProg
import Derived.Test.YtllmbnfceffgmaaDoorChecked
set_option linter.unusedVariables false
set_option linter.unusedSimpArgs false
set_option linter.unusedSectionVars false
set_option linter.unusedVariables false
set_option maxRecDepth 100000
namespace Go.Proofs.YtllmbnfceffgmaaDoor.TieMirrorMap
open Go Go.Ev Go.Lg Go.Proofs
def tys : Nat → Option Ty := lookT [(3, (.int .i64)), (4, .bool), (22, (.sl (.int .i64))), (24, (.st (.pair (.int .i64) (.pair (.int .i64) (.pair (.sl (.int .i64)) (.pair (.sl (.int .i64)) (.sl (.int .i64)))))))), (30, (.st (.pair (.int .i64) (.pair (.int .i64) (.pair (.sl (.int .i64)) (.pair (.sl (.int .i64)) (.sl (.int .i64)))))))), (44, (.st (.pair (.int .i64) (.int .i64)))), (66, (.sl (.sl (.int .i64)))), (101, (.arr 6 (.st (.pair (.int .i64) (.int .i64)))))]
def glob : Nat → AV := fun g => bif Nat.beq g 0 then .pval (.arr 6 (.st (.pair (.int .i64) (.int .i64)))) impl_directions else .bot
theorem types : Types Tryd.prog tys := types_of (by kernel_rfl)
theorem mixed : Tryd.prog.follows .mixedOrders = true := Checked.mixed Tryd.checked
theorem e0 : SoundE Tryd.prog glob tnil ∧ NatE tnil := ⟨tnil_sound, tnil_nat⟩
theorem tab_cons {n : Nat} {t : FFun} {E : Tbl} (h : SoundF Tryd.prog glob n t) (h2 : SoundE Tryd.prog glob E ∧ NatE E) : SoundE Tryd.prog glob (tcons n t E) ∧ NatE (tcons n t E) := ⟨tcons_sound h h2.1, tcons_nat h h2.2⟩
theorem tab_consI {n m : Nat} {t : FFun} {E : Tbl} (hm : m ≠ 0) (h : SoundI Tryd.prog glob n m t) (h2 : SoundE Tryd.prog glob E ∧ NatE E) : SoundE Tryd.prog glob (tcons (n + 1000000 * m) t E) ∧ NatE (tcons (n + 1000000 * m) t E) := ⟨tconsI_sound hm h h2.1, tconsI_nat h h2.2⟩
/-- laws.szIntS -/
def cx_laws_szIntS : Cx := { N := 12, G := glob, C := tys, ad := fun d => false, wk := false }
def F_laws_szIntS (k : Nat) : FArg (.c (.val (.sl (.int .i64))) (.c (.val (.int .i64)) .e)) := fun x K => laws_szIntS x.1 x.2.1 (fun (r0 : Int) => K [⟨(.int .i64), r0, true⟩])
theorem s_laws_szIntS (k : Nat) : SoundF Tryd.prog glob 54 (ftab (.c (.val (.sl (.int .i64))) (.c (.val (.int .i64)) .e)) (F_laws_szIntS k)) :=
  fun_ok (cx := cx_laws_szIntS) (by kernel_rfl) ⟨types, (e0).1, (e0).2, mixed, rfl⟩ Tryd.func54 rfl (LoopsOK.nil) [] (by kernel_rfl) (fun x K => by kernel_rfl)
def E_laws_szIntS (k : Nat) : Tbl := tcons 54 (ftab (.c (.val (.sl (.int .i64))) (.c (.val (.int .i64)) .e)) (F_laws_szIntS k)) (tnil)
theorem E_laws_szIntS_ok (k : Nat) : SoundE Tryd.prog glob (E_laws_szIntS k) ∧ NatE (E_laws_szIntS k) := tab_cons (s_laws_szIntS k) (e0)
/-- laws.szMap -/
def cx_laws_szMap : Cx := { N := 24, G := glob, C := tys, ad := fun d => false, wk := false }
def F_laws_szMap (k : Nat) : FArg (.c (.val (.st (.pair (.int .i64) (.pair (.int .i64) (.pair (.sl (.int .i64)) (.pair (.sl (.int .i64)) (.sl (.int .i64)))))))) (.c (.val (.int .i64)) .e)) := fun x K => laws_szMap x.1 x.2.1 (fun (r0 : Int) => K [⟨(.int .i64), r0, true⟩])
theorem s_laws_szMap (k : Nat) : SoundF Tryd.prog glob 20 (ftab (.c (.val (.st (.pair (.int .i64) (.pair (.int .i64) (.pair (.sl (.int .i64)) (.pair (.sl (.int .i64)) (.sl (.int .i64)))))))) (.c (.val (.int .i64)) .e)) (F_laws_szMap k)) :=
  fun_ok (cx := cx_laws_szMap) (by kernel_rfl) ⟨types, (E_laws_szIntS_ok k).1, (E_laws_szIntS_ok k).2, mixed, rfl⟩ Tryd.func20 rfl (LoopsOK.nil) [] (by kernel_rfl) (fun x K => by kernel_rfl)
def E_laws_szMap (k : Nat) : Tbl := tcons 20 (ftab (.c (.val (.st (.pair (.int .i64) (.pair (.int .i64) (.pair (.sl (.int .i64)) (.pair (.sl (.int .i64)) (.sl (.int .i64)))))))) (.c (.val (.int .i64)) .e)) (F_laws_szMap k)) (E_laws_szIntS k)
theorem E_laws_szMap_ok (k : Nat) : SoundE Tryd.prog glob (E_laws_szMap k) ∧ NatE (E_laws_szMap k) := tab_cons (s_laws_szMap k) (E_laws_szIntS_ok k)
/-- laws.toIntS -/
def cx_laws_toIntS : Cx := { N := 22, G := glob, C := tys, ad := fun d => false, wk := false, dp := true }
def sp_laws_toIntS_l0 : LSp where
  cv := []
  ts := [(0, .val (.sl (.int .i64))), (3, .own 7), (4, .val (.int .i64))]
  ids := [(7, .row (.int .i64))]
  tx := fun e => match e with | .exit i => bif Nat.beq i 0 then [3] else [] | .ret => [] | .normal => []
  ix := fun e => match e with | .exit i => bif Nat.beq i 0 then [7] else [] | .ret => [] | .normal => []
def F_laws_toIntS_l0 (k : Nat) : LArg sp_laws_toIntS_l0 := fun K n x y => laws_toIntS_l0 k (fun (y0 : List Int) => K (.exit 0) (mkSt [(3, .own 7 1)] [(7, some (.row (.int .i64) y0))])) n x.1 x.2.2.1 y.1
def LO_laws_toIntS_l0 (k : Nat) : LTbl := (lcons 3 (ltab sp_laws_toIntS_l0 (F_laws_toIntS_l0 k) k) lnil)
theorem lk_laws_toIntS_l0 (k : Nat) : LoopsOK Tryd.prog glob (E_laws_szMap k) cx_laws_toIntS (LO_laws_toIntS_l0 k) ((3, (loopB Tryd.f56 3)) :: []) :=
  LoopsOK.cons (LoopsOK.nil) (E_laws_szMap_ok k).2 (F := F_laws_toIntS_l0 k) k [] (by kernel_rfl) (by kernel_rfl) (fun K x y => rfl) (fun n x y K => by kernel_rfl)
def F_laws_toIntS (k : Nat) : FArg (.c (.val (.sl (.int .i64))) .e) := fun x K => laws_toIntS k x.1 (fun (r0 : List Int) => K [⟨(.sl (.int .i64)), r0, true⟩])
theorem s_laws_toIntS (k : Nat) : SoundF Tryd.prog glob 56 (ftab (.c (.val (.sl (.int .i64))) .e) (F_laws_toIntS k)) :=
  fun_ok (cx := cx_laws_toIntS) (by kernel_rfl) ⟨types, (E_laws_szMap_ok k).1, (E_laws_szMap_ok k).2, mixed, rfl⟩ Tryd.func56 rfl (lk_laws_toIntS_l0 k) [0] (by kernel_rfl) (fun x K => by kernel_rfl)
def E_laws_toIntS (k : Nat) : Tbl := tcons 56 (ftab (.c (.val (.sl (.int .i64))) .e) (F_laws_toIntS k)) (E_laws_szMap k)
theorem E_laws_toIntS_ok (k : Nat) : SoundE Tryd.prog glob (E_laws_toIntS k) ∧ NatE (E_laws_toIntS k) := tab_cons (s_laws_toIntS k) (E_laws_szMap_ok k)
/-- laws.toMap -/
def cx_laws_toMap : Cx := { N := 23, G := glob, C := tys, ad := fun d => Nat.beq d 12 || Nat.beq d 16 || Nat.beq d 20, wk := false, dp := true }
def F_laws_toMap (k : Nat) : FArg (.c (.val (.st (.pair (.int .i64) (.pair (.int .i64) (.pair (.sl (.int .i64)) (.pair (.sl (.int .i64)) (.sl (.int .i64)))))))) .e) := fun x K => laws_toMap k x.1 (fun (r0 : Int × Int × (List Int) × (List Int) × List Int) => K [⟨(.st (.pair (.int .i64) (.pair (.int .i64) (.pair (.sl (.int .i64)) (.pair (.sl (.int .i64)) (.sl (.int .i64))))))), r0, true⟩])
theorem s_laws_toMap (k : Nat) : SoundF Tryd.prog glob 22 (ftab (.c (.val (.st (.pair (.int .i64) (.pair (.int .i64) (.pair (.sl (.int .i64)) (.pair (.sl (.int .i64)) (.sl (.int .i64)))))))) .e) (F_laws_toMap k)) :=
  fun_ok (cx := cx_laws_toMap) (by kernel_rfl) ⟨types, (E_laws_toIntS_ok k).1, (E_laws_toIntS_ok k).2, mixed, rfl⟩ Tryd.func22 rfl (LoopsOK.nil) [] (by kernel_rfl) (fun x K => by kernel_rfl)
def E_laws_toMap (k : Nat) : Tbl := tcons 22 (ftab (.c (.val (.st (.pair (.int .i64) (.pair (.int .i64) (.pair (.sl (.int .i64)) (.pair (.sl (.int .i64)) (.sl (.int .i64)))))))) .e) (F_laws_toMap k)) (E_laws_toIntS k)
theorem E_laws_toMap_ok (k : Nat) : SoundE Tryd.prog glob (E_laws_toMap k) ∧ NatE (E_laws_toMap k) := tab_cons (s_laws_toMap k) (E_laws_toIntS_ok k)
/-- spec.l1In -/
def cx_spec_l1In : Cx := { N := 15, G := glob, C := tys, ad := fun d => false, wk := false }
def F_spec_l1In (k : Nat) : FArg (.c (.val (.int .i64)) (.c (.val (.int .i64)) (.c (.val (.int .i64)) .e))) := fun x K => spec_l1In x.1 x.2.1 x.2.2.1 (fun (r0 : Bool) => K [⟨.bool, r0, true⟩])
theorem s_spec_l1In (k : Nat) : SoundF Tryd.prog glob 76 (ftab (.c (.val (.int .i64)) (.c (.val (.int .i64)) (.c (.val (.int .i64)) .e))) (F_spec_l1In k)) :=
  fun_ok (cx := cx_spec_l1In) (by kernel_rfl) ⟨types, (E_laws_toMap_ok k).1, (E_laws_toMap_ok k).2, mixed, rfl⟩ Tryd.func76 rfl (LoopsOK.nil) [] (by kernel_rfl) (fun x K => by kernel_rfl)
def E_spec_l1In (k : Nat) : Tbl := tcons 76 (ftab (.c (.val (.int .i64)) (.c (.val (.int .i64)) (.c (.val (.int .i64)) .e))) (F_spec_l1In k)) (E_laws_toMap k)
theorem E_spec_l1In_ok (k : Nat) : SoundE Tryd.prog glob (E_spec_l1In k) ∧ NatE (E_spec_l1In k) := tab_cons (s_spec_l1In k) (E_laws_toMap_ok k)
/-- spec.mSize -/
def cx_spec_mSize : Cx := { N := 8, G := glob, C := tys, ad := fun d => false, wk := false }
def F_spec_mSize (k : Nat) : FArg (.c (.val (.st (.pair (.int .i64) (.pair (.int .i64) (.pair (.sl (.int .i64)) (.pair (.sl (.int .i64)) (.sl (.int .i64)))))))) .e) := fun x K => spec_mSize x.1 (fun (r0 : Int) => K [⟨(.int .i64), r0, true⟩])
theorem s_spec_mSize (k : Nat) : SoundF Tryd.prog glob 89 (ftab (.c (.val (.st (.pair (.int .i64) (.pair (.int .i64) (.pair (.sl (.int .i64)) (.pair (.sl (.int .i64)) (.sl (.int .i64)))))))) .e) (F_spec_mSize k)) :=
  fun_ok (cx := cx_spec_mSize) (by kernel_rfl) ⟨types, (E_spec_l1In_ok k).1, (E_spec_l1In_ok k).2, mixed, rfl⟩ Tryd.func89 rfl (LoopsOK.nil) [] (by kernel_rfl) (fun x K => by kernel_rfl)
def E_spec_mSize (k : Nat) : Tbl := tcons 89 (ftab (.c (.val (.st (.pair (.int .i64) (.pair (.int .i64) (.pair (.sl (.int .i64)) (.pair (.sl (.int .i64)) (.sl (.int .i64)))))))) .e) (F_spec_mSize k)) (E_spec_l1In k)
theorem E_spec_mSize_ok (k : Nat) : SoundE Tryd.prog glob (E_spec_mSize k) ∧ NatE (E_spec_mSize k) := tab_cons (s_spec_mSize k) (E_spec_l1In_ok k)
/-- spec.l1All -/
def cx_spec_l1All : Cx := { N := 21, G := glob, C := tys, ad := fun d => false, wk := false }
def sp_spec_l1All_l0 : LSp where
  cv := []
  ts := [(1, .val (.int .i64)), (2, .val (.int .i64)), (9, .val (.sl (.int .i64))), (10, .val (.int .i64)), (11, .val (.int .i64))]
  ids := []
  tx := fun e => match e with | .exit i => bif Nat.beq i 0 then [] else [] | .ret => [6] | .normal => []
  ix := fun e => match e with | .exit i => bif Nat.beq i 0 then [] else [] | .ret => [] | .normal => []
def F_spec_l1All_l0 (k : Nat) : LArg sp_spec_l1All_l0 := fun K n x y => spec_l1All_l0 k (K (.exit 0) (mkSt [] [])) (fun (y0 : Bool) => K (.ret) (mkSt [(6, .val .bool y0)] [])) n x.1 x.2.1 x.2.2.1 x.2.2.2.1 x.2.2.2.2.1
def LO_spec_l1All_l0 (k : Nat) : LTbl := (lcons 2 (ltab sp_spec_l1All_l0 (F_spec_l1All_l0 k) k) lnil)
theorem lk_spec_l1All_l0 (k : Nat) : LoopsOK Tryd.prog glob (E_spec_mSize k) cx_spec_l1All (LO_spec_l1All_l0 k) ((2, (loopB Tryd.f90 2)) :: []) :=
  LoopsOK.cons (LoopsOK.nil) (E_spec_mSize_ok k).2 (F := F_spec_l1All_l0 k) k [] (by kernel_rfl) (by kernel_rfl) (fun K x y => rfl) (fun n x y K => by kernel_rfl)
def F_spec_l1All (k : Nat) : FArg (.c (.val (.sl (.int .i64))) (.c (.val (.int .i64)) (.c (.val (.int .i64)) .e))) := fun x K => spec_l1All k x.1 x.2.1 x.2.2.1 (fun (r0 : Bool) => K [⟨.bool, r0, true⟩])
theorem s_spec_l1All (k : Nat) : SoundF Tryd.prog glob 90 (ftab (.c (.val (.sl (.int .i64))) (.c (.val (.int .i64)) (.c (.val (.int .i64)) .e))) (F_spec_l1All k)) :=
  fun_ok (cx := cx_spec_l1All) (by kernel_rfl) ⟨types, (E_spec_mSize_ok k).1, (E_spec_mSize_ok k).2, mixed, rfl⟩ Tryd.func90 rfl (lk_spec_l1All_l0 k) [0] (by kernel_rfl) (fun x K => by kernel_rfl)
def E_spec_l1All (k : Nat) : Tbl := tcons 90 (ftab (.c (.val (.sl (.int .i64))) (.c (.val (.int .i64)) (.c (.val (.int .i64)) .e))) (F_spec_l1All k)) (E_spec_mSize k)
theorem E_spec_l1All_ok (k : Nat) : SoundE Tryd.prog glob (E_spec_l1All k) ∧ NatE (E_spec_l1All k) := tab_cons (s_spec_l1All k) (E_spec_mSize_ok k)
/-- spec.mHex -/
def cx_spec_mHex : Cx := { N := 14, G := glob, C := tys, ad := fun d => false, wk := false }
def F_spec_mHex (k : Nat) : FArg (.c (.val (.st (.pair (.int .i64) (.pair (.int .i64) (.pair (.sl (.int .i64)) (.pair (.sl (.int .i64)) (.sl (.int .i64)))))))) (.c (.val (.int .i64)) .e)) := fun x K => spec_mHex x.1 x.2.1 (fun (r0 : Int × Int) => K [⟨(.st (.pair (.int .i64) (.int .i64))), r0, true⟩])
theorem s_spec_mHex (k : Nat) : SoundF Tryd.prog glob 69 (ftab (.c (.val (.st (.pair (.int .i64) (.pair (.int .i64) (.pair (.sl (.int .i64)) (.pair (.sl (.int .i64)) (.sl (.int .i64)))))))) (.c (.val (.int .i64)) .e)) (F_spec_mHex k)) :=
  fun_ok (cx := cx_spec_mHex) (by kernel_rfl) ⟨types, (E_spec_l1All_ok k).1, (E_spec_l1All_ok k).2, mixed, rfl⟩ Tryd.func69 rfl (LoopsOK.nil) [] (by kernel_rfl) (fun x K => by kernel_rfl)
def E_spec_mHex (k : Nat) : Tbl := tcons 69 (ftab (.c (.val (.st (.pair (.int .i64) (.pair (.int .i64) (.pair (.sl (.int .i64)) (.pair (.sl (.int .i64)) (.sl (.int .i64)))))))) (.c (.val (.int .i64)) .e)) (F_spec_mHex k)) (E_spec_l1All k)
theorem E_spec_mHex_ok (k : Nat) : SoundE Tryd.prog glob (E_spec_mHex k) ∧ NatE (E_spec_mHex k) := tab_cons (s_spec_mHex k) (E_spec_l1All_ok k)
/-- spec.hStep -/
def cx_spec_hStep : Cx := { N := 20, G := glob, C := tys, ad := fun d => false, wk := false }
def F_spec_hStep (k : Nat) : FArg (.c (.val (.st (.pair (.int .i64) (.int .i64)))) (.c (.val (.int .i64)) .e)) := fun x K => spec_hStep x.1 x.2.1 (fun (r0 : Int × Int) => K [⟨(.st (.pair (.int .i64) (.int .i64))), r0, true⟩])
theorem s_spec_hStep (k : Nat) : SoundF Tryd.prog glob 92 (ftab (.c (.val (.st (.pair (.int .i64) (.int .i64)))) (.c (.val (.int .i64)) .e)) (F_spec_hStep k)) :=
  fun_ok (cx := cx_spec_hStep) (by kernel_rfl) ⟨types, (E_spec_mHex_ok k).1, (E_spec_mHex_ok k).2, mixed, rfl⟩ Tryd.func92 rfl (LoopsOK.nil) [] (by kernel_rfl) (fun x K => by kernel_rfl)
def E_spec_hStep (k : Nat) : Tbl := tcons 92 (ftab (.c (.val (.st (.pair (.int .i64) (.int .i64)))) (.c (.val (.int .i64)) .e)) (F_spec_hStep k)) (E_spec_mHex k)
theorem E_spec_hStep_ok (k : Nat) : SoundE Tryd.prog glob (E_spec_hStep k) ∧ NatE (E_spec_hStep k) := tab_cons (s_spec_hStep k) (E_spec_mHex_ok k)
/-- spec.mIndex -/
def cx_spec_mIndex : Cx := { N := 29, G := glob, C := tys, ad := fun d => false, wk := false }
def F_spec_mIndex (k : Nat) : FArg (.c (.val (.st (.pair (.int .i64) (.pair (.int .i64) (.pair (.sl (.int .i64)) (.pair (.sl (.int .i64)) (.sl (.int .i64)))))))) (.c (.val (.st (.pair (.int .i64) (.int .i64)))) .e)) := fun x K => spec_mIndex x.1 x.2.1 (fun (r0 : Int) => K [⟨(.int .i64), r0, true⟩])
theorem s_spec_mIndex (k : Nat) : SoundF Tryd.prog glob 66 (ftab (.c (.val (.st (.pair (.int .i64) (.pair (.int .i64) (.pair (.sl (.int .i64)) (.pair (.sl (.int .i64)) (.sl (.int .i64)))))))) (.c (.val (.st (.pair (.int .i64) (.int .i64)))) .e)) (F_spec_mIndex k)) :=
  fun_ok (cx := cx_spec_mIndex) (by kernel_rfl) ⟨types, (E_spec_hStep_ok k).1, (E_spec_hStep_ok k).2, mixed, rfl⟩ Tryd.func66 rfl (LoopsOK.nil) [] (by kernel_rfl) (fun x K => by kernel_rfl)
def E_spec_mIndex (k : Nat) : Tbl := tcons 66 (ftab (.c (.val (.st (.pair (.int .i64) (.pair (.int .i64) (.pair (.sl (.int .i64)) (.pair (.sl (.int .i64)) (.sl (.int .i64)))))))) (.c (.val (.st (.pair (.int .i64) (.int .i64)))) .e)) (F_spec_mIndex k)) (E_spec_hStep k)
theorem E_spec_mIndex_ok (k : Nat) : SoundE Tryd.prog glob (E_spec_mIndex k) ∧ NatE (E_spec_mIndex k) := tab_cons (s_spec_mIndex k) (E_spec_hStep_ok k)
/-- spec.mNext -/
def cx_spec_mNext : Cx := { N := 14, G := glob, C := tys, ad := fun d => false, wk := false }
def F_spec_mNext (k : Nat) : FArg (.c (.val (.st (.pair (.int .i64) (.pair (.int .i64) (.pair (.sl (.int .i64)) (.pair (.sl (.int .i64)) (.sl (.int .i64)))))))) (.c (.val (.int .i64)) (.c (.val (.int .i64)) .e))) := fun x K => spec_mNext x.1 x.2.1 x.2.2.1 (fun (r0 : Int) => K [⟨(.int .i64), r0, true⟩])
theorem s_spec_mNext (k : Nat) : SoundF Tryd.prog glob 61 (ftab (.c (.val (.st (.pair (.int .i64) (.pair (.int .i64) (.pair (.sl (.int .i64)) (.pair (.sl (.int .i64)) (.sl (.int .i64)))))))) (.c (.val (.int .i64)) (.c (.val (.int .i64)) .e))) (F_spec_mNext k)) :=
  fun_ok (cx := cx_spec_mNext) (by kernel_rfl) ⟨types, (E_spec_mIndex_ok k).1, (E_spec_mIndex_ok k).2, mixed, rfl⟩ Tryd.func61 rfl (LoopsOK.nil) [] (by kernel_rfl) (fun x K => by kernel_rfl)
def E_spec_mNext (k : Nat) : Tbl := tcons 61 (ftab (.c (.val (.st (.pair (.int .i64) (.pair (.int .i64) (.pair (.sl (.int .i64)) (.pair (.sl (.int .i64)) (.sl (.int .i64)))))))) (.c (.val (.int .i64)) (.c (.val (.int .i64)) .e))) (F_spec_mNext k)) (E_spec_mIndex k)
theorem E_spec_mNext_ok (k : Nat) : SoundE Tryd.prog glob (E_spec_mNext k) ∧ NatE (E_spec_mNext k) := tab_cons (s_spec_mNext k) (E_spec_mIndex_ok k)
/-- spec.l1Rising -/
def cx_spec_l1Rising : Cx := { N := 35, G := glob, C := tys, ad := fun d => false, wk := false }
def sp_spec_l1Rising_l0 : LSp where
  cv := []
  ts := [(0, .val (.sl (.int .i64))), (1, .val (.int .i64)), (2, .val (.int .i64)), (9, .val (.sl (.int .i64))), (10, .val (.int .i64)), (11, .val (.int .i64))]
  ids := []
  tx := fun e => match e with | .exit i => bif Nat.beq i 0 then [] else [] | .ret => [6] | .normal => []
  ix := fun e => match e with | .exit i => bif Nat.beq i 0 then [] else [] | .ret => [] | .normal => []
def F_spec_l1Rising_l0 (k : Nat) : LArg sp_spec_l1Rising_l0 := fun K n x y => spec_l1Rising_l0 k (K (.exit 0) (mkSt [] [])) (fun (y0 : Bool) => K (.ret) (mkSt [(6, .val .bool y0)] [])) n x.1 x.2.1 x.2.2.1 x.2.2.2.1 x.2.2.2.2.1 x.2.2.2.2.2.1
def LO_spec_l1Rising_l0 (k : Nat) : LTbl := (lcons 2 (ltab sp_spec_l1Rising_l0 (F_spec_l1Rising_l0 k) k) lnil)
theorem lk_spec_l1Rising_l0 (k : Nat) : LoopsOK Tryd.prog glob (E_spec_mNext k) cx_spec_l1Rising (LO_spec_l1Rising_l0 k) ((2, (loopB Tryd.f91 2)) :: []) :=
  LoopsOK.cons (LoopsOK.nil) (E_spec_mNext_ok k).2 (F := F_spec_l1Rising_l0 k) k [] (by kernel_rfl) (by kernel_rfl) (fun K x y => rfl) (fun n x y K => by kernel_rfl)
def F_spec_l1Rising (k : Nat) : FArg (.c (.val (.sl (.int .i64))) (.c (.val (.int .i64)) (.c (.val (.int .i64)) .e))) := fun x K => spec_l1Rising k x.1 x.2.1 x.2.2.1 (fun (r0 : Bool) => K [⟨.bool, r0, true⟩])
theorem s_spec_l1Rising (k : Nat) : SoundF Tryd.prog glob 91 (ftab (.c (.val (.sl (.int .i64))) (.c (.val (.int .i64)) (.c (.val (.int .i64)) .e))) (F_spec_l1Rising k)) :=
  fun_ok (cx := cx_spec_l1Rising) (by kernel_rfl) ⟨types, (E_spec_mNext_ok k).1, (E_spec_mNext_ok k).2, mixed, rfl⟩ Tryd.func91 rfl (lk_spec_l1Rising_l0 k) [0] (by kernel_rfl) (fun x K => by kernel_rfl)
def E_spec_l1Rising (k : Nat) : Tbl := tcons 91 (ftab (.c (.val (.sl (.int .i64))) (.c (.val (.int .i64)) (.c (.val (.int .i64)) .e))) (F_spec_l1Rising k)) (E_spec_mNext k)
theorem E_spec_l1Rising_ok (k : Nat) : SoundE Tryd.prog glob (E_spec_l1Rising k) ∧ NatE (E_spec_l1Rising k) := tab_cons (s_spec_l1Rising k) (E_spec_mNext_ok k)
/-- spec.mEdges -/
def cx_spec_mEdges : Cx := { N := 36, G := glob, C := tys, ad := fun d => false, wk := false }
def sp_spec_mEdges_l0 : LSp where
  cv := []
  ts := [(1, .val (.sl (.int .i64))), (2, .ptr 2), (7, .val (.sl (.int .i64))), (8, .val (.int .i64)), (9, .val (.int .i64))]
  ids := [(2, .box (.st (.pair (.int .i64) (.pair (.int .i64) (.pair (.sl (.int .i64)) (.pair (.sl (.int .i64)) (.sl (.int .i64))))))) (.val (.st (.pair (.int .i64) (.pair (.int .i64) (.pair (.sl (.int .i64)) (.pair (.sl (.int .i64)) (.sl (.int .i64)))))))))]
  tx := fun e => match e with | .exit i => bif Nat.beq i 0 then [1, 2] else [] | .ret => [4] | .normal => []
  ix := fun e => match e with | .exit i => bif Nat.beq i 0 then [2] else [] | .ret => [] | .normal => []
def F_spec_mEdges_l0 (k : Nat) : LArg sp_spec_mEdges_l0 := fun K n x y => spec_mEdges_l0 k (fun (y0 : List Int) (y1 : Int × Int × (List Int) × (List Int) × List Int) => K (.exit 0) (mkSt [(1, .val (.sl (.int .i64)) y0), (2, .ptr 2 1 [])] [(2, some (.box (.st (.pair (.int .i64) (.pair (.int .i64) (.pair (.sl (.int .i64)) (.pair (.sl (.int .i64)) (.sl (.int .i64))))))) (.val (.st (.pair (.int .i64) (.pair (.int .i64) (.pair (.sl (.int .i64)) (.pair (.sl (.int .i64)) (.sl (.int .i64))))))) y1)))])) (fun (y0 : Bool) => K (.ret) (mkSt [(4, .val .bool y0)] [])) n x.1 x.2.2.1 x.2.2.2.1 x.2.2.2.2.1 y.1
def LO_spec_mEdges_l0 (k : Nat) : LTbl := (lcons 2 (ltab sp_spec_mEdges_l0 (F_spec_mEdges_l0 k) k) lnil)
theorem lk_spec_mEdges_l0 (k : Nat) : LoopsOK Tryd.prog glob (E_spec_l1Rising k) cx_spec_mEdges (LO_spec_mEdges_l0 k) ((2, (loopB Tryd.f60 2)) :: []) :=
  LoopsOK.cons (LoopsOK.nil) (E_spec_l1Rising_ok k).2 (F := F_spec_mEdges_l0 k) k [] (by kernel_rfl) (by kernel_rfl) (fun K x y => rfl) (fun n x y K => by kernel_rfl)
def F_spec_mEdges (k : Nat) : FArg (.c (.val (.st (.pair (.int .i64) (.pair (.int .i64) (.pair (.sl (.int .i64)) (.pair (.sl (.int .i64)) (.sl (.int .i64)))))))) (.c (.val (.sl (.int .i64))) .e)) := fun x K => spec_mEdges k x.1 x.2.1 (fun (r0 : Bool) => K [⟨.bool, r0, true⟩])
theorem s_spec_mEdges (k : Nat) : SoundF Tryd.prog glob 60 (ftab (.c (.val (.st (.pair (.int .i64) (.pair (.int .i64) (.pair (.sl (.int .i64)) (.pair (.sl (.int .i64)) (.sl (.int .i64)))))))) (.c (.val (.sl (.int .i64))) .e)) (F_spec_mEdges k)) :=
  fun_ok (cx := cx_spec_mEdges) (by kernel_rfl) ⟨types, (E_spec_l1Rising_ok k).1, (E_spec_l1Rising_ok k).2, mixed, rfl⟩ Tryd.func60 rfl (lk_spec_mEdges_l0 k) [0] (by kernel_rfl) (fun x K => by kernel_rfl)
def E_spec_mEdges (k : Nat) : Tbl := tcons 60 (ftab (.c (.val (.st (.pair (.int .i64) (.pair (.int .i64) (.pair (.sl (.int .i64)) (.pair (.sl (.int .i64)) (.sl (.int .i64)))))))) (.c (.val (.sl (.int .i64))) .e)) (F_spec_mEdges k)) (E_spec_l1Rising k)
theorem E_spec_mEdges_ok (k : Nat) : SoundE Tryd.prog glob (E_spec_mEdges k) ∧ NatE (E_spec_mEdges k) := tab_cons (s_spec_mEdges k) (E_spec_l1Rising_ok k)
/-- spec.mGood -/
def cx_spec_mGood : Cx := { N := 36, G := glob, C := tys, ad := fun d => false, wk := false }
def F_spec_mGood (k : Nat) : FArg (.c (.val (.st (.pair (.int .i64) (.pair (.int .i64) (.pair (.sl (.int .i64)) (.pair (.sl (.int .i64)) (.sl (.int .i64)))))))) .e) := fun x K => spec_mGood k x.1 (fun (r0 : Bool) => K [⟨.bool, r0, true⟩])
theorem s_spec_mGood (k : Nat) : SoundF Tryd.prog glob 55 (ftab (.c (.val (.st (.pair (.int .i64) (.pair (.int .i64) (.pair (.sl (.int .i64)) (.pair (.sl (.int .i64)) (.sl (.int .i64)))))))) .e) (F_spec_mGood k)) :=
  fun_ok (cx := cx_spec_mGood) (by kernel_rfl) ⟨types, (E_spec_mEdges_ok k).1, (E_spec_mEdges_ok k).2, mixed, rfl⟩ Tryd.func55 rfl (LoopsOK.nil) [] (by kernel_rfl) (fun x K => by kernel_rfl)
def E_spec_mGood (k : Nat) : Tbl := tcons 55 (ftab (.c (.val (.st (.pair (.int .i64) (.pair (.int .i64) (.pair (.sl (.int .i64)) (.pair (.sl (.int .i64)) (.sl (.int .i64)))))))) .e) (F_spec_mGood k)) (E_spec_mEdges k)
theorem E_spec_mGood_ok (k : Nat) : SoundE Tryd.prog glob (E_spec_mGood k) ∧ NatE (E_spec_mGood k) := tab_cons (s_spec_mGood k) (E_spec_mEdges_ok k)
/-- spec.mMirrorIndex -/
def cx_spec_mMirrorIndex : Cx := { N := 17, G := glob, C := tys, ad := fun d => false, wk := false }
def F_spec_mMirrorIndex (k : Nat) : FArg (.c (.val (.st (.pair (.int .i64) (.pair (.int .i64) (.pair (.sl (.int .i64)) (.pair (.sl (.int .i64)) (.sl (.int .i64)))))))) (.c (.val (.int .i64)) .e)) := fun x K => spec_mMirrorIndex x.1 x.2.1 (fun (r0 : Int) => K [⟨(.int .i64), r0, true⟩])
theorem s_spec_mMirrorIndex (k : Nat) : SoundF Tryd.prog glob 100 (ftab (.c (.val (.st (.pair (.int .i64) (.pair (.int .i64) (.pair (.sl (.int .i64)) (.pair (.sl (.int .i64)) (.sl (.int .i64)))))))) (.c (.val (.int .i64)) .e)) (F_spec_mMirrorIndex k)) :=
  fun_ok (cx := cx_spec_mMirrorIndex) (by kernel_rfl) ⟨types, (E_spec_mGood_ok k).1, (E_spec_mGood_ok k).2, mixed, rfl⟩ Tryd.func100 rfl (LoopsOK.nil) [] (by kernel_rfl) (fun x K => by kernel_rfl)
def E_spec_mMirrorIndex (k : Nat) : Tbl := tcons 100 (ftab (.c (.val (.st (.pair (.int .i64) (.pair (.int .i64) (.pair (.sl (.int .i64)) (.pair (.sl (.int .i64)) (.sl (.int .i64)))))))) (.c (.val (.int .i64)) .e)) (F_spec_mMirrorIndex k)) (E_spec_mGood k)
theorem E_spec_mMirrorIndex_ok (k : Nat) : SoundE Tryd.prog glob (E_spec_mMirrorIndex k) ∧ NatE (E_spec_mMirrorIndex k) := tab_cons (s_spec_mMirrorIndex k) (E_spec_mGood_ok k)
/-- spec.mEdge -/
def cx_spec_mEdge : Cx := { N := 21, G := glob, C := tys, ad := fun d => false, wk := false }
def F_spec_mEdge (k : Nat) : FArg (.c (.val (.st (.pair (.int .i64) (.pair (.int .i64) (.pair (.sl (.int .i64)) (.pair (.sl (.int .i64)) (.sl (.int .i64)))))))) (.c (.val (.int .i64)) (.c (.val (.int .i64)) .e))) := fun x K => spec_mEdge x.1 x.2.1 x.2.2.1 (fun (r0 : Int) => K [⟨(.int .i64), r0, true⟩])
theorem s_spec_mEdge (k : Nat) : SoundF Tryd.prog glob 71 (ftab (.c (.val (.st (.pair (.int .i64) (.pair (.int .i64) (.pair (.sl (.int .i64)) (.pair (.sl (.int .i64)) (.sl (.int .i64)))))))) (.c (.val (.int .i64)) (.c (.val (.int .i64)) .e))) (F_spec_mEdge k)) :=
  fun_ok (cx := cx_spec_mEdge) (by kernel_rfl) ⟨types, (E_spec_mMirrorIndex_ok k).1, (E_spec_mMirrorIndex_ok k).2, mixed, rfl⟩ Tryd.func71 rfl (LoopsOK.nil) [] (by kernel_rfl) (fun x K => by kernel_rfl)
def E_spec_mEdge (k : Nat) : Tbl := tcons 71 (ftab (.c (.val (.st (.pair (.int .i64) (.pair (.int .i64) (.pair (.sl (.int .i64)) (.pair (.sl (.int .i64)) (.sl (.int .i64)))))))) (.c (.val (.int .i64)) (.c (.val (.int .i64)) .e))) (F_spec_mEdge k)) (E_spec_mMirrorIndex k)
theorem E_spec_mEdge_ok (k : Nat) : SoundE Tryd.prog glob (E_spec_mEdge k) ∧ NatE (E_spec_mEdge k) := tab_cons (s_spec_mEdge k) (E_spec_mMirrorIndex_ok k)
/-- spec.l1Put -/
def cx_spec_l1Put : Cx := { N := 48, G := glob, C := tys, ad := fun d => false, wk := true }
def sp_spec_l1Put_l0 : LSp where
  cv := []
  ts := [(0, .val (.sl (.int .i64))), (1, .val (.int .i64)), (5, .val (.int .i64))]
  ids := []
  tx := fun e => match e with | .exit i => bif Nat.beq i 0 then [0, 1, 5] else [] | .ret => [] | .normal => []
  ix := fun e => match e with | .exit i => bif Nat.beq i 0 then [] else [] | .ret => [] | .normal => []
def F_spec_l1Put_l0 (k : Nat) : LArg sp_spec_l1Put_l0 := fun K n x y => spec_l1Put_l0 k (fun (y0 : List Int) (y1 : Int) (y2 : Int) => K (.exit 0) (mkSt [(0, .val (.sl (.int .i64)) y0), (1, .val (.int .i64) y1), (5, .val (.int .i64) y2)] [])) n x.1 x.2.1 x.2.2.1
def LO_spec_l1Put_l0 (k : Nat) : LTbl := (lcons 2 (ltab sp_spec_l1Put_l0 (F_spec_l1Put_l0 k) k) lnil)
theorem lk_spec_l1Put_l0 (k : Nat) : LoopsOK Tryd.prog glob (E_spec_mEdge k) cx_spec_l1Put (LO_spec_l1Put_l0 k) ((2, (loopB Tryd.f112 2)) :: []) :=
  LoopsOK.cons (LoopsOK.nil) (E_spec_mEdge_ok k).2 (F := F_spec_l1Put_l0 k) k [] (by kernel_rfl) (by kernel_rfl) (fun K x y => rfl) (fun n x y K => by kernel_rfl)
def F_spec_l1Put (k : Nat) : FArg (.c (.val (.sl (.int .i64))) (.c (.val (.int .i64)) .e)) := fun x K => spec_l1Put k x.1 x.2.1 (fun (r0 : List Int) => K [⟨(.sl (.int .i64)), r0, false⟩])
theorem s_spec_l1Put (k : Nat) : SoundF Tryd.prog glob 112 (ftab (.c (.val (.sl (.int .i64))) (.c (.val (.int .i64)) .e)) (F_spec_l1Put k)) :=
  fun_ok (cx := cx_spec_l1Put) (by kernel_rfl) ⟨types, (E_spec_mEdge_ok k).1, (E_spec_mEdge_ok k).2, mixed, rfl⟩ Tryd.func112 rfl (lk_spec_l1Put_l0 k) [0] (by kernel_rfl) (fun x K => by kernel_rfl)
def E_spec_l1Put (k : Nat) : Tbl := tcons 112 (ftab (.c (.val (.sl (.int .i64))) (.c (.val (.int .i64)) .e)) (F_spec_l1Put k)) (E_spec_mEdge k)
theorem E_spec_l1Put_ok (k : Nat) : SoundE Tryd.prog glob (E_spec_l1Put k) ∧ NatE (E_spec_l1Put k) := tab_cons (s_spec_l1Put k) (E_spec_mEdge_ok k)
/-- spec.mMirrorEdges -/
def cx_spec_mMirrorEdges : Cx := { N := 29, G := glob, C := tys, ad := fun d => false, wk := false }
def sp_spec_mMirrorEdges_l0 : LSp where
  cv := [(7, 0, (.int .i64))]
  ts := [(3, .ptr 3), (4, .ptr 4), (7, .val (.sl (.int .i64))), (10, .val (.sl (.int .i64))), (11, .val (.int .i64)), (12, .val (.int .i64))]
  ids := [(3, .box (.st (.pair (.int .i64) (.pair (.int .i64) (.pair (.sl (.int .i64)) (.pair (.sl (.int .i64)) (.sl (.int .i64))))))) (.val (.st (.pair (.int .i64) (.pair (.int .i64) (.pair (.sl (.int .i64)) (.pair (.sl (.int .i64)) (.sl (.int .i64))))))))), (4, .box (.st (.pair (.int .i64) (.pair (.int .i64) (.pair (.sl (.int .i64)) (.pair (.sl (.int .i64)) (.sl (.int .i64))))))) (.val (.st (.pair (.int .i64) (.pair (.int .i64) (.pair (.sl (.int .i64)) (.pair (.sl (.int .i64)) (.sl (.int .i64)))))))))]
  tx := fun e => match e with | .exit i => bif Nat.beq i 0 then [7] else [] | .ret => [] | .normal => []
  ix := fun e => match e with | .exit i => bif Nat.beq i 0 then [] else [] | .ret => [] | .normal => []
def F_spec_mMirrorEdges_l0 (k : Nat) : LArg sp_spec_mMirrorEdges_l0 := fun K n x y => spec_mMirrorEdges_l0 k (fun (y0 : List Int) => K (.exit 0) (mkSt [(7, .val (.sl (.int .i64)) y0)] [])) n x.2.2.1 x.2.2.2.1 x.2.2.2.2.1 x.2.2.2.2.2.1 y.1 y.2.1
def LO_spec_mMirrorEdges_l0 (k : Nat) : LTbl := (lcons 3 (ltab sp_spec_mMirrorEdges_l0 (F_spec_mMirrorEdges_l0 k) k) lnil)
theorem lk_spec_mMirrorEdges_l0 (k : Nat) : LoopsOK Tryd.prog glob (E_spec_l1Put k) cx_spec_mMirrorEdges (LO_spec_mMirrorEdges_l0 k) ((3, (loopB Tryd.f101 3)) :: []) :=
  LoopsOK.cons (LoopsOK.nil) (E_spec_l1Put_ok k).2 (F := F_spec_mMirrorEdges_l0 k) k [] (by kernel_rfl) (by kernel_rfl) (fun K x y => rfl) (fun n x y K => by kernel_rfl)
def F_spec_mMirrorEdges (k : Nat) : FArg (.c (.val (.st (.pair (.int .i64) (.pair (.int .i64) (.pair (.sl (.int .i64)) (.pair (.sl (.int .i64)) (.sl (.int .i64)))))))) (.c (.val (.st (.pair (.int .i64) (.pair (.int .i64) (.pair (.sl (.int .i64)) (.pair (.sl (.int .i64)) (.sl (.int .i64)))))))) (.c (.val (.sl (.int .i64))) .e))) := fun x K => spec_mMirrorEdges k x.1 x.2.1 x.2.2.1 (fun (r0 : List Int) => K [⟨(.sl (.int .i64)), r0, false⟩])
theorem s_spec_mMirrorEdges (k : Nat) : SoundF Tryd.prog glob 101 (ftab (.c (.val (.st (.pair (.int .i64) (.pair (.int .i64) (.pair (.sl (.int .i64)) (.pair (.sl (.int .i64)) (.sl (.int .i64)))))))) (.c (.val (.st (.pair (.int .i64) (.pair (.int .i64) (.pair (.sl (.int .i64)) (.pair (.sl (.int .i64)) (.sl (.int .i64)))))))) (.c (.val (.sl (.int .i64))) .e))) (F_spec_mMirrorEdges k)) :=
  fun_ok (cx := cx_spec_mMirrorEdges) (by kernel_rfl) ⟨types, (E_spec_l1Put_ok k).1, (E_spec_l1Put_ok k).2, mixed, rfl⟩ Tryd.func101 rfl (lk_spec_mMirrorEdges_l0 k) [0] (by kernel_rfl) (fun x K => by kernel_rfl)
def E_spec_mMirrorEdges (k : Nat) : Tbl := tcons 101 (ftab (.c (.val (.st (.pair (.int .i64) (.pair (.int .i64) (.pair (.sl (.int .i64)) (.pair (.sl (.int .i64)) (.sl (.int .i64)))))))) (.c (.val (.st (.pair (.int .i64) (.pair (.int .i64) (.pair (.sl (.int .i64)) (.pair (.sl (.int .i64)) (.sl (.int .i64)))))))) (.c (.val (.sl (.int .i64))) .e))) (F_spec_mMirrorEdges k)) (E_spec_l1Put k)
theorem E_spec_mMirrorEdges_ok (k : Nat) : SoundE Tryd.prog glob (E_spec_mMirrorEdges k) ∧ NatE (E_spec_mMirrorEdges k) := tab_cons (s_spec_mMirrorEdges k) (E_spec_l1Put_ok k)
/-- spec.mMirror -/
def cx_spec_mMirror : Cx := { N := 43, G := glob, C := tys, ad := fun d => false, wk := false }
def sp_spec_mMirror_l0 : LSp where
  cv := [(10000202, 2200042, (.int .i64)), (10000203, 2200043, (.int .i64)), (10000204, 2200044, (.int .i64)), (10000303, 2200063, (.int .i64)), (10000304, 2200064, (.int .i64))]
  ts := [(1, .ptr 1), (2, .ptr 2), (3, .ptr 3), (15, .val (.sl (.int .i64))), (16, .val (.int .i64)), (17, .val (.int .i64))]
  ids := [(1, .box (.st (.pair (.int .i64) (.pair (.int .i64) (.pair (.sl (.int .i64)) (.pair (.sl (.int .i64)) (.sl (.int .i64))))))) (.val (.st (.pair (.int .i64) (.pair (.int .i64) (.pair (.sl (.int .i64)) (.pair (.sl (.int .i64)) (.sl (.int .i64))))))))), (2, .box (.st (.pair (.int .i64) (.pair (.int .i64) (.pair (.sl (.int .i64)) (.pair (.sl (.int .i64)) (.sl (.int .i64))))))) (.agg (.c (.val (.int .i64)) (.c (.val (.int .i64)) (.c (.own 2200042) (.c (.own 2200043) (.c (.own 2200044) .e))))))), (3, .box (.st (.pair (.int .i64) (.pair (.int .i64) (.pair (.sl (.int .i64)) (.pair (.sl (.int .i64)) (.sl (.int .i64))))))) (.agg (.c (.val (.int .i64)) (.c (.val (.int .i64)) (.c (.own 12) (.c (.own 2200063) (.c (.own 2200064) .e))))))), (2200042, .row (.int .i64)), (2200043, .row (.int .i64)), (2200044, .row (.int .i64)), (12, .row (.int .i64)), (2200063, .row (.int .i64)), (2200064, .row (.int .i64))]
  tx := fun e => match e with | .exit i => bif Nat.beq i 0 then [1, 2, 3] else [] | .ret => [] | .normal => []
  ix := fun e => match e with | .exit i => bif Nat.beq i 0 then [1, 2, 3, 2200042, 2200043, 2200044, 12, 2200063, 2200064] else [] | .ret => [] | .normal => []
def F_spec_mMirror_l0 (k : Nat) : LArg sp_spec_mMirror_l0 := fun K n x y => spec_mMirror_l0 k (fun (y0 : Int × Int × (List Int) × (List Int) × List Int) (y1 : Int) (y2 : Int) (y3 : Int) (y4 : Int) (y5 : List Int) (y6 : List Int) (y7 : List Int) (y8 : List Int) (y9 : List Int) (y10 : List Int) => K (.exit 0) (mkSt [(1, .ptr 1 1 []), (2, .ptr 2 1 []), (3, .ptr 3 1 [])] [(1, some (.box (.st (.pair (.int .i64) (.pair (.int .i64) (.pair (.sl (.int .i64)) (.pair (.sl (.int .i64)) (.sl (.int .i64))))))) (.val (.st (.pair (.int .i64) (.pair (.int .i64) (.pair (.sl (.int .i64)) (.pair (.sl (.int .i64)) (.sl (.int .i64))))))) y0))), (2, some (.box (.st (.pair (.int .i64) (.pair (.int .i64) (.pair (.sl (.int .i64)) (.pair (.sl (.int .i64)) (.sl (.int .i64))))))) (.agg [.val (.int .i64) y1, .val (.int .i64) y2, .own 2200042 1, .own 2200043 1, .own 2200044 1]))), (3, some (.box (.st (.pair (.int .i64) (.pair (.int .i64) (.pair (.sl (.int .i64)) (.pair (.sl (.int .i64)) (.sl (.int .i64))))))) (.agg [.val (.int .i64) y3, .val (.int .i64) y4, .own 12 1, .own 2200063 1, .own 2200064 1]))), (2200042, some (.row (.int .i64) y5)), (2200043, some (.row (.int .i64) y6)), (2200044, some (.row (.int .i64) y7)), (12, some (.row (.int .i64) y8)), (2200063, some (.row (.int .i64) y9)), (2200064, some (.row (.int .i64) y10))])) n x.2.2.2.1 x.2.2.2.2.1 x.2.2.2.2.2.1 y.1 y.2.1.1 y.2.1.2.1 y.2.2.1.1 y.2.2.1.2.1 y.2.2.2.1 y.2.2.2.2.1 y.2.2.2.2.2.1 y.2.2.2.2.2.2.1 y.2.2.2.2.2.2.2.1 y.2.2.2.2.2.2.2.2.1
def LO_spec_mMirror_l0 (k : Nat) : LTbl := (lcons 3 (ltab sp_spec_mMirror_l0 (F_spec_mMirror_l0 k) k) lnil)
theorem lk_spec_mMirror_l0 (k : Nat) : LoopsOK Tryd.prog glob (E_spec_mMirrorEdges k) cx_spec_mMirror (LO_spec_mMirror_l0 k) ((3, (loopB Tryd.f80 3)) :: []) :=
  LoopsOK.cons (LoopsOK.nil) (E_spec_mMirrorEdges_ok k).2 (F := F_spec_mMirror_l0 k) k [] (by kernel_rfl) (by kernel_rfl) (fun K x y => rfl) (fun n x y K => by kernel_rfl)
def F_spec_mMirror (k : Nat) : FArg (.c (.val (.st (.pair (.int .i64) (.pair (.int .i64) (.pair (.sl (.int .i64)) (.pair (.sl (.int .i64)) (.sl (.int .i64)))))))) .e) := fun x K => spec_mMirror k x.1 (fun (r0 : Int × Int × (List Int) × (List Int) × List Int) => K [⟨(.st (.pair (.int .i64) (.pair (.int .i64) (.pair (.sl (.int .i64)) (.pair (.sl (.int .i64)) (.sl (.int .i64))))))), r0, false⟩])
theorem s_spec_mMirror (k : Nat) : SoundF Tryd.prog glob 80 (ftab (.c (.val (.st (.pair (.int .i64) (.pair (.int .i64) (.pair (.sl (.int .i64)) (.pair (.sl (.int .i64)) (.sl (.int .i64)))))))) .e) (F_spec_mMirror k)) :=
  fun_ok (cx := cx_spec_mMirror) (by kernel_rfl) ⟨types, (E_spec_mMirrorEdges_ok k).1, (E_spec_mMirrorEdges_ok k).2, mixed, rfl⟩ Tryd.func80 rfl (lk_spec_mMirror_l0 k) [0] (by kernel_rfl) (fun x K => by kernel_rfl)
def E_spec_mMirror (k : Nat) : Tbl := tcons 80 (ftab (.c (.val (.st (.pair (.int .i64) (.pair (.int .i64) (.pair (.sl (.int .i64)) (.pair (.sl (.int .i64)) (.sl (.int .i64)))))))) .e) (F_spec_mMirror k)) (E_spec_mMirrorEdges k)
theorem E_spec_mMirror_ok (k : Nat) : SoundE Tryd.prog glob (E_spec_mMirror k) ∧ NatE (E_spec_mMirror k) := tab_cons (s_spec_mMirror k) (E_spec_mMirrorEdges_ok k)
/-- spec.MirrorMap -/
def cx_spec_MirrorMap : Cx := { N := 10, G := glob, C := tys, ad := fun d => false, wk := true }
def F_spec_MirrorMap (k : Nat) : FArg (.c (.val (.st (.pair (.int .i64) (.pair (.int .i64) (.pair (.sl (.int .i64)) (.pair (.sl (.int .i64)) (.sl (.int .i64)))))))) .e) := fun x K => spec_MirrorMap k x.1 (fun (r0 : Int × Int × (List Int) × (List Int) × List Int) (r1 : Bool) => K [⟨(.st (.pair (.int .i64) (.pair (.int .i64) (.pair (.sl (.int .i64)) (.pair (.sl (.int .i64)) (.sl (.int .i64))))))), r0, false⟩, ⟨.bool, r1, true⟩])
theorem s_spec_MirrorMap (k : Nat) : SoundF Tryd.prog glob 47 (ftab (.c (.val (.st (.pair (.int .i64) (.pair (.int .i64) (.pair (.sl (.int .i64)) (.pair (.sl (.int .i64)) (.sl (.int .i64)))))))) .e) (F_spec_MirrorMap k)) :=
  fun_ok (cx := cx_spec_MirrorMap) (by kernel_rfl) ⟨types, (E_spec_mMirror_ok k).1, (E_spec_mMirror_ok k).2, mixed, rfl⟩ Tryd.func47 rfl (LoopsOK.nil) [] (by kernel_rfl) (fun x K => by kernel_rfl)
def E_spec_MirrorMap (k : Nat) : Tbl := tcons 47 (ftab (.c (.val (.st (.pair (.int .i64) (.pair (.int .i64) (.pair (.sl (.int .i64)) (.pair (.sl (.int .i64)) (.sl (.int .i64)))))))) .e) (F_spec_MirrorMap k)) (E_spec_mMirror k)
theorem E_spec_MirrorMap_ok (k : Nat) : SoundE Tryd.prog glob (E_spec_MirrorMap k) ∧ NatE (E_spec_MirrorMap k) := tab_cons (s_spec_MirrorMap k) (E_spec_mMirror_ok k)
/-- impl.inRange -/
def cx_impl_inRange : Cx := { N := 15, G := glob, C := tys, ad := fun d => false, wk := false, dp := true }
def F_impl_inRange (k : Nat) : FArg (.c (.val (.int .i64)) (.c (.val (.int .i64)) (.c (.val (.int .i64)) .e))) := fun x K => impl_inRange x.1 x.2.1 x.2.2.1 (fun (r0 : Bool) => K [⟨.bool, r0, true⟩])
theorem s_impl_inRange (k : Nat) : SoundF Tryd.prog glob 52 (ftab (.c (.val (.int .i64)) (.c (.val (.int .i64)) (.c (.val (.int .i64)) .e))) (F_impl_inRange k)) :=
  fun_ok (cx := cx_impl_inRange) (by kernel_rfl) ⟨types, (E_spec_MirrorMap_ok k).1, (E_spec_MirrorMap_ok k).2, mixed, rfl⟩ Tryd.func52 rfl (LoopsOK.nil) [] (by kernel_rfl) (fun x K => by kernel_rfl)
def E_impl_inRange (k : Nat) : Tbl := tcons 52 (ftab (.c (.val (.int .i64)) (.c (.val (.int .i64)) (.c (.val (.int .i64)) .e))) (F_impl_inRange k)) (E_spec_MirrorMap k)
theorem E_impl_inRange_ok (k : Nat) : SoundE Tryd.prog glob (E_impl_inRange k) ∧ NatE (E_impl_inRange k) := tab_cons (s_impl_inRange k) (E_spec_MirrorMap_ok k)
/-- impl.isIndex -/
def cx_impl_isIndex : Cx := { N := 9, G := glob, C := tys, ad := fun d => Nat.beq d 8, wk := false, dp := true }
def F_impl_isIndex (k : Nat) : FArg (.c (.val (.int .i64)) (.c (.val (.int .i64)) .e)) := fun x K => impl_isIndex x.1 x.2.1 (fun (r0 : Bool) => K [⟨.bool, r0, true⟩])
theorem s_impl_isIndex (k : Nat) : SoundF Tryd.prog glob 57 (ftab (.c (.val (.int .i64)) (.c (.val (.int .i64)) .e)) (F_impl_isIndex k)) :=
  fun_ok (cx := cx_impl_isIndex) (by kernel_rfl) ⟨types, (E_impl_inRange_ok k).1, (E_impl_inRange_ok k).2, mixed, rfl⟩ Tryd.func57 rfl (LoopsOK.nil) [] (by kernel_rfl) (fun x K => by kernel_rfl)
def E_impl_isIndex (k : Nat) : Tbl := tcons 57 (ftab (.c (.val (.int .i64)) (.c (.val (.int .i64)) .e)) (F_impl_isIndex k)) (E_impl_inRange k)
theorem E_impl_isIndex_ok (k : Nat) : SoundE Tryd.prog glob (E_impl_isIndex k) ∧ NatE (E_impl_isIndex k) := tab_cons (s_impl_isIndex k) (E_impl_inRange_ok k)
/-- impl.increasing -/
def cx_impl_increasing : Cx := { N := 20, G := glob, C := tys, ad := fun d => false, wk := false, dp := true }
def sp_impl_increasing_l0 : LSp where
  cv := []
  ts := [(0, .val (.sl (.int .i64))), (3, .val (.int .i64))]
  ids := []
  tx := fun e => match e with | .exit i => bif Nat.beq i 0 then [] else [] | .ret => [2] | .normal => []
  ix := fun e => match e with | .exit i => bif Nat.beq i 0 then [] else [] | .ret => [] | .normal => []
def F_impl_increasing_l0 (k : Nat) : LArg sp_impl_increasing_l0 := fun K n x y => impl_increasing_l0 k (K (.exit 0) (mkSt [] [])) (fun (y0 : Bool) => K (.ret) (mkSt [(2, .val .bool y0)] [])) n x.1 x.2.1
def LO_impl_increasing_l0 (k : Nat) : LTbl := (lcons 2 (ltab sp_impl_increasing_l0 (F_impl_increasing_l0 k) k) lnil)
theorem lk_impl_increasing_l0 (k : Nat) : LoopsOK Tryd.prog glob (E_impl_isIndex k) cx_impl_increasing (LO_impl_increasing_l0 k) ((2, (loopB Tryd.f58 2)) :: []) :=
  LoopsOK.cons (LoopsOK.nil) (E_impl_isIndex_ok k).2 (F := F_impl_increasing_l0 k) k [] (by kernel_rfl) (by kernel_rfl) (fun K x y => rfl) (fun n x y K => by kernel_rfl)
def F_impl_increasing (k : Nat) : FArg (.c (.val (.sl (.int .i64))) .e) := fun x K => impl_increasing k x.1 (fun (r0 : Bool) => K [⟨.bool, r0, true⟩])
theorem s_impl_increasing (k : Nat) : SoundF Tryd.prog glob 58 (ftab (.c (.val (.sl (.int .i64))) .e) (F_impl_increasing k)) :=
  fun_ok (cx := cx_impl_increasing) (by kernel_rfl) ⟨types, (E_impl_isIndex_ok k).1, (E_impl_isIndex_ok k).2, mixed, rfl⟩ Tryd.func58 rfl (lk_impl_increasing_l0 k) [0] (by kernel_rfl) (fun x K => by kernel_rfl)
def E_impl_increasing (k : Nat) : Tbl := tcons 58 (ftab (.c (.val (.sl (.int .i64))) .e) (F_impl_increasing k)) (E_impl_isIndex k)
theorem E_impl_increasing_ok (k : Nat) : SoundE Tryd.prog glob (E_impl_increasing k) ∧ NatE (E_impl_increasing k) := tab_cons (s_impl_increasing k) (E_impl_isIndex_ok k)
/-- impl.hexOf -/
def cx_impl_hexOf : Cx := { N := 14, G := glob, C := tys, ad := fun d => false, wk := false, dp := true }
def F_impl_hexOf (k : Nat) : FArg (.c (.val (.st (.pair (.int .i64) (.pair (.int .i64) (.pair (.sl (.int .i64)) (.pair (.sl (.int .i64)) (.sl (.int .i64)))))))) (.c (.val (.int .i64)) .e)) := fun x K => impl_hexOf x.1 x.2.1 (fun (r0 : Int × Int) => K [⟨(.st (.pair (.int .i64) (.int .i64))), r0, true⟩])
theorem s_impl_hexOf (k : Nat) : SoundF Tryd.prog glob 70 (ftab (.c (.val (.st (.pair (.int .i64) (.pair (.int .i64) (.pair (.sl (.int .i64)) (.pair (.sl (.int .i64)) (.sl (.int .i64)))))))) (.c (.val (.int .i64)) .e)) (F_impl_hexOf k)) :=
  fun_ok (cx := cx_impl_hexOf) (by kernel_rfl) ⟨types, (E_impl_increasing_ok k).1, (E_impl_increasing_ok k).2, mixed, rfl⟩ Tryd.func70 rfl (LoopsOK.nil) [] (by kernel_rfl) (fun x K => by kernel_rfl)
def E_impl_hexOf (k : Nat) : Tbl := tcons 70 (ftab (.c (.val (.st (.pair (.int .i64) (.pair (.int .i64) (.pair (.sl (.int .i64)) (.pair (.sl (.int .i64)) (.sl (.int .i64)))))))) (.c (.val (.int .i64)) .e)) (F_impl_hexOf k)) (E_impl_increasing k)
theorem E_impl_hexOf_ok (k : Nat) : SoundE Tryd.prog glob (E_impl_hexOf k) ∧ NatE (E_impl_hexOf k) := tab_cons (s_impl_hexOf k) (E_impl_increasing_ok k)
/-- impl.stepBy -/
def cx_impl_stepBy : Cx := { N := 26, G := glob, C := tys, ad := fun d => false, wk := false, dp := true }
def F_impl_stepBy (k : Nat) : FArg (.c (.val (.st (.pair (.int .i64) (.int .i64)))) (.c (.val (.int .i64)) (.c (.val (.int .i64)) .e))) := fun x K => impl_stepBy x.1 x.2.1 x.2.2.1 (fun (r0 : Int × Int) => K [⟨(.st (.pair (.int .i64) (.int .i64))), r0, true⟩])
theorem s_impl_stepBy (k : Nat) : SoundF Tryd.prog glob 93 (ftab (.c (.val (.st (.pair (.int .i64) (.int .i64)))) (.c (.val (.int .i64)) (.c (.val (.int .i64)) .e))) (F_impl_stepBy k)) :=
  fun_ok (cx := cx_impl_stepBy) (by kernel_rfl) ⟨types, (E_impl_hexOf_ok k).1, (E_impl_hexOf_ok k).2, mixed, rfl⟩ Tryd.func93 rfl (LoopsOK.nil) [] (by kernel_rfl) (fun x K => by kernel_rfl)
def E_impl_stepBy (k : Nat) : Tbl := tcons 93 (ftab (.c (.val (.st (.pair (.int .i64) (.int .i64)))) (.c (.val (.int .i64)) (.c (.val (.int .i64)) .e))) (F_impl_stepBy k)) (E_impl_hexOf k)
theorem E_impl_stepBy_ok (k : Nat) : SoundE Tryd.prog glob (E_impl_stepBy k) ∧ NatE (E_impl_stepBy k) := tab_cons (s_impl_stepBy k) (E_impl_hexOf_ok k)
/-- impl.indexOf -/
def cx_impl_indexOf : Cx := { N := 27, G := glob, C := tys, ad := fun d => Nat.beq d 9 || Nat.beq d 16, wk := false, dp := true }
def F_impl_indexOf (k : Nat) : FArg (.c (.val (.st (.pair (.int .i64) (.pair (.int .i64) (.pair (.sl (.int .i64)) (.pair (.sl (.int .i64)) (.sl (.int .i64)))))))) (.c (.val (.st (.pair (.int .i64) (.int .i64)))) .e)) := fun x K => impl_indexOf x.1 x.2.1 (fun (r0 : Int) => K [⟨(.int .i64), r0, true⟩])
theorem s_impl_indexOf (k : Nat) : SoundF Tryd.prog glob 67 (ftab (.c (.val (.st (.pair (.int .i64) (.pair (.int .i64) (.pair (.sl (.int .i64)) (.pair (.sl (.int .i64)) (.sl (.int .i64)))))))) (.c (.val (.st (.pair (.int .i64) (.int .i64)))) .e)) (F_impl_indexOf k)) :=
  fun_ok (cx := cx_impl_indexOf) (by kernel_rfl) ⟨types, (E_impl_stepBy_ok k).1, (E_impl_stepBy_ok k).2, mixed, rfl⟩ Tryd.func67 rfl (LoopsOK.nil) [] (by kernel_rfl) (fun x K => by kernel_rfl)
def E_impl_indexOf (k : Nat) : Tbl := tcons 67 (ftab (.c (.val (.st (.pair (.int .i64) (.pair (.int .i64) (.pair (.sl (.int .i64)) (.pair (.sl (.int .i64)) (.sl (.int .i64)))))))) (.c (.val (.st (.pair (.int .i64) (.int .i64)))) .e)) (F_impl_indexOf k)) (E_impl_stepBy k)
theorem E_impl_indexOf_ok (k : Nat) : SoundE Tryd.prog glob (E_impl_indexOf k) ∧ NatE (E_impl_indexOf k) := tab_cons (s_impl_indexOf k) (E_impl_stepBy_ok k)
/-- impl.nextTo -/
def cx_impl_nextTo : Cx := { N := 14, G := glob, C := tys, ad := fun d => Nat.beq d 13, wk := false, dp := true }
def F_impl_nextTo (k : Nat) : FArg (.c (.val (.st (.pair (.int .i64) (.pair (.int .i64) (.pair (.sl (.int .i64)) (.pair (.sl (.int .i64)) (.sl (.int .i64)))))))) (.c (.val (.int .i64)) (.c (.val (.int .i64)) .e))) := fun x K => impl_nextTo x.1 x.2.1 x.2.2.1 (fun (r0 : Int) => K [⟨(.int .i64), r0, true⟩])
theorem s_impl_nextTo (k : Nat) : SoundF Tryd.prog glob 62 (ftab (.c (.val (.st (.pair (.int .i64) (.pair (.int .i64) (.pair (.sl (.int .i64)) (.pair (.sl (.int .i64)) (.sl (.int .i64)))))))) (.c (.val (.int .i64)) (.c (.val (.int .i64)) .e))) (F_impl_nextTo k)) :=
  fun_ok (cx := cx_impl_nextTo) (by kernel_rfl) ⟨types, (E_impl_indexOf_ok k).1, (E_impl_indexOf_ok k).2, mixed, rfl⟩ Tryd.func62 rfl (LoopsOK.nil) [] (by kernel_rfl) (fun x K => by kernel_rfl)
def E_impl_nextTo (k : Nat) : Tbl := tcons 62 (ftab (.c (.val (.st (.pair (.int .i64) (.pair (.int .i64) (.pair (.sl (.int .i64)) (.pair (.sl (.int .i64)) (.sl (.int .i64)))))))) (.c (.val (.int .i64)) (.c (.val (.int .i64)) .e))) (F_impl_nextTo k)) (E_impl_indexOf k)
theorem E_impl_nextTo_ok (k : Nat) : SoundE Tryd.prog glob (E_impl_nextTo k) ∧ NatE (E_impl_nextTo k) := tab_cons (s_impl_nextTo k) (E_impl_indexOf_ok k)
/-- impl.isEdge -/
def cx_impl_isEdge : Cx := { N := 23, G := glob, C := tys, ad := fun d => Nat.beq d 13 || Nat.beq d 20, wk := false, dp := true }
def F_impl_isEdge (k : Nat) : FArg (.c (.val (.st (.pair (.int .i64) (.pair (.int .i64) (.pair (.sl (.int .i64)) (.pair (.sl (.int .i64)) (.sl (.int .i64)))))))) (.c (.val (.int .i64)) .e)) := fun x K => impl_isEdge x.1 x.2.1 (fun (r0 : Bool) => K [⟨.bool, r0, true⟩])
theorem s_impl_isEdge (k : Nat) : SoundF Tryd.prog glob 59 (ftab (.c (.val (.st (.pair (.int .i64) (.pair (.int .i64) (.pair (.sl (.int .i64)) (.pair (.sl (.int .i64)) (.sl (.int .i64)))))))) (.c (.val (.int .i64)) .e)) (F_impl_isEdge k)) :=
  fun_ok (cx := cx_impl_isEdge) (by kernel_rfl) ⟨types, (E_impl_nextTo_ok k).1, (E_impl_nextTo_ok k).2, mixed, rfl⟩ Tryd.func59 rfl (LoopsOK.nil) [] (by kernel_rfl) (fun x K => by kernel_rfl)
def E_impl_isEdge (k : Nat) : Tbl := tcons 59 (ftab (.c (.val (.st (.pair (.int .i64) (.pair (.int .i64) (.pair (.sl (.int .i64)) (.pair (.sl (.int .i64)) (.sl (.int .i64)))))))) (.c (.val (.int .i64)) .e)) (F_impl_isEdge k)) (E_impl_nextTo k)
theorem E_impl_isEdge_ok (k : Nat) : SoundE Tryd.prog glob (E_impl_isEdge k) ∧ NatE (E_impl_isEdge k) := tab_cons (s_impl_isEdge k) (E_impl_nextTo_ok k)
/-- impl.IsMap -/
def cx_impl_IsMap : Cx := { N := 66, G := glob, C := tys, ad := fun d => Nat.beq d 11 || Nat.beq d 16 || Nat.beq d 38 || Nat.beq d 52 || Nat.beq d 62, wk := false }
def sp_impl_IsMap_l0 : LSp where
  cv := []
  ts := [(1, .ptr 1), (31, .val (.sl (.int .i64))), (32, .val (.int .i64)), (33, .val (.int .i64))]
  ids := [(1, .box (.st (.pair (.int .i64) (.pair (.int .i64) (.pair (.sl (.int .i64)) (.pair (.sl (.int .i64)) (.sl (.int .i64))))))) (.val (.st (.pair (.int .i64) (.pair (.int .i64) (.pair (.sl (.int .i64)) (.pair (.sl (.int .i64)) (.sl (.int .i64)))))))))]
  tx := fun e => match e with | .exit i => bif Nat.beq i 0 then [1] else [] | .ret => [2] | .normal => []
  ix := fun e => match e with | .exit i => bif Nat.beq i 0 then [1] else [] | .ret => [] | .normal => []
def F_impl_IsMap_l0 (k : Nat) : LArg sp_impl_IsMap_l0 := fun K n x y => impl_IsMap_l0 k (fun (y0 : Int × Int × (List Int) × (List Int) × List Int) => K (.exit 0) (mkSt [(1, .ptr 1 1 [])] [(1, some (.box (.st (.pair (.int .i64) (.pair (.int .i64) (.pair (.sl (.int .i64)) (.pair (.sl (.int .i64)) (.sl (.int .i64))))))) (.val (.st (.pair (.int .i64) (.pair (.int .i64) (.pair (.sl (.int .i64)) (.pair (.sl (.int .i64)) (.sl (.int .i64))))))) y0)))])) (fun (y0 : Bool) => K (.ret) (mkSt [(2, .val .bool y0)] [])) n x.2.1 x.2.2.1 x.2.2.2.1 y.1
def LO_impl_IsMap_l0 (k : Nat) : LTbl := (lcons 4 (ltab sp_impl_IsMap_l0 (F_impl_IsMap_l0 k) k) lnil)
theorem lk_impl_IsMap_l0 (k : Nat) : LoopsOK Tryd.prog glob (E_impl_isEdge k) cx_impl_IsMap (LO_impl_IsMap_l0 k) ((4, (loopB Tryd.f23 4)) :: []) :=
  LoopsOK.cons (LoopsOK.nil) (E_impl_isEdge_ok k).2 (F := F_impl_IsMap_l0 k) k [] (by kernel_rfl) (by kernel_rfl) (fun K x y => rfl) (fun n x y K => by kernel_rfl)
def sp_impl_IsMap_l1 : LSp where
  cv := []
  ts := [(1, .ptr 1), (45, .own 45), (46, .val (.int .i64)), (47, .val (.int .i64)), (54, .val (.sl (.int .i64))), (55, .val (.int .i64)), (56, .val (.int .i64))]
  ids := [(1, .box (.st (.pair (.int .i64) (.pair (.int .i64) (.pair (.sl (.int .i64)) (.pair (.sl (.int .i64)) (.sl (.int .i64))))))) (.val (.st (.pair (.int .i64) (.pair (.int .i64) (.pair (.sl (.int .i64)) (.pair (.sl (.int .i64)) (.sl (.int .i64))))))))), (45, .row (.sl (.int .i64)))]
  tx := fun e => match e with | .exit i => bif Nat.beq i 4 then [1, 45, 46, 47] else [] | .ret => [2] | .normal => []
  ix := fun e => match e with | .exit i => bif Nat.beq i 4 then [1, 45] else [] | .ret => [] | .normal => []
def F_impl_IsMap_l1 (k : Nat) : LArg sp_impl_IsMap_l1 := fun K n x y => impl_IsMap_l1 k (fun (y0 : Int) (y1 : Int) (y2 : Int × Int × (List Int) × (List Int) × List Int) (y3 : List (List Int)) => K (.exit 4) (mkSt [(1, .ptr 1 1 []), (45, .own 45 1), (46, .val (.int .i64) y0), (47, .val (.int .i64) y1)] [(1, some (.box (.st (.pair (.int .i64) (.pair (.int .i64) (.pair (.sl (.int .i64)) (.pair (.sl (.int .i64)) (.sl (.int .i64))))))) (.val (.st (.pair (.int .i64) (.pair (.int .i64) (.pair (.sl (.int .i64)) (.pair (.sl (.int .i64)) (.sl (.int .i64))))))) y2))), (45, some (.row (.sl (.int .i64)) y3))])) (fun (y0 : Bool) => K (.ret) (mkSt [(2, .val .bool y0)] [])) n x.2.2.1 x.2.2.2.1 x.2.2.2.2.1 x.2.2.2.2.2.1 x.2.2.2.2.2.2.1 y.1 y.2.1
def LO_impl_IsMap_l1 (k : Nat) : LTbl := (lcons 15 (ltab sp_impl_IsMap_l1 (F_impl_IsMap_l1 k) k) (LO_impl_IsMap_l0 k))
theorem lk_impl_IsMap_l1 (k : Nat) : LoopsOK Tryd.prog glob (E_impl_isEdge k) cx_impl_IsMap (LO_impl_IsMap_l1 k) ((15, (loopB Tryd.f23 15)) :: ((4, (loopB Tryd.f23 4)) :: [])) :=
  LoopsOK.cons (lk_impl_IsMap_l0 k) (E_impl_isEdge_ok k).2 (F := F_impl_IsMap_l1 k) k [] (by kernel_rfl) (by kernel_rfl) (fun K x y => rfl) (fun n x y K => by kernel_rfl)
def sp_impl_IsMap_l2 : LSp where
  cv := []
  ts := [(1, .ptr 1), (45, .own 45), (46, .val (.int .i64)), (47, .val (.int .i64))]
  ids := [(1, .box (.st (.pair (.int .i64) (.pair (.int .i64) (.pair (.sl (.int .i64)) (.pair (.sl (.int .i64)) (.sl (.int .i64))))))) (.val (.st (.pair (.int .i64) (.pair (.int .i64) (.pair (.sl (.int .i64)) (.pair (.sl (.int .i64)) (.sl (.int .i64))))))))), (45, .row (.sl (.int .i64)))]
  tx := fun e => match e with | .exit i => bif Nat.beq i 2 then [] else [] | .ret => [2] | .normal => []
  ix := fun e => match e with | .exit i => bif Nat.beq i 2 then [] else [] | .ret => [] | .normal => []
def F_impl_IsMap_l2 (k : Nat) : LArg sp_impl_IsMap_l2 := fun K n x y => impl_IsMap_l2 k (K (.exit 2) (mkSt [] [])) (fun (y0 : Bool) => K (.ret) (mkSt [(2, .val .bool y0)] [])) n x.2.2.1 x.2.2.2.1 y.1 y.2.1
def LO_impl_IsMap_l2 (k : Nat) : LTbl := (lcons 10 (ltab sp_impl_IsMap_l2 (F_impl_IsMap_l2 k) k) (LO_impl_IsMap_l1 k))
theorem lk_impl_IsMap_l2 (k : Nat) : LoopsOK Tryd.prog glob (E_impl_isEdge k) cx_impl_IsMap (LO_impl_IsMap_l2 k) ((10, (loopB Tryd.f23 10)) :: ((15, (loopB Tryd.f23 15)) :: ((4, (loopB Tryd.f23 4)) :: []))) :=
  LoopsOK.cons (lk_impl_IsMap_l1 k) (E_impl_isEdge_ok k).2 (F := F_impl_IsMap_l2 k) k [0] (by kernel_rfl) (by kernel_rfl) (fun K x y => rfl) (fun n x y K => by kernel_rfl)
def F_impl_IsMap (k : Nat) : FArg (.c (.val (.st (.pair (.int .i64) (.pair (.int .i64) (.pair (.sl (.int .i64)) (.pair (.sl (.int .i64)) (.sl (.int .i64)))))))) .e) := fun x K => impl_IsMap k x.1 (fun (r0 : Bool) => K [⟨.bool, r0, true⟩])
theorem s_impl_IsMap (k : Nat) : SoundF Tryd.prog glob 23 (ftab (.c (.val (.st (.pair (.int .i64) (.pair (.int .i64) (.pair (.sl (.int .i64)) (.pair (.sl (.int .i64)) (.sl (.int .i64)))))))) .e) (F_impl_IsMap k)) :=
  fun_ok (cx := cx_impl_IsMap) (by kernel_rfl) ⟨types, (E_impl_isEdge_ok k).1, (E_impl_isEdge_ok k).2, mixed, rfl⟩ Tryd.func23 rfl (lk_impl_IsMap_l2 k) [2, 0] (by kernel_rfl) (fun x K => by kernel_rfl)
def E_impl_IsMap (k : Nat) : Tbl := tcons 23 (ftab (.c (.val (.st (.pair (.int .i64) (.pair (.int .i64) (.pair (.sl (.int .i64)) (.pair (.sl (.int .i64)) (.sl (.int .i64)))))))) .e) (F_impl_IsMap k)) (E_impl_isEdge k)
theorem E_impl_IsMap_ok (k : Nat) : SoundE Tryd.prog glob (E_impl_IsMap k) ∧ NatE (E_impl_IsMap k) := tab_cons (s_impl_IsMap k) (E_impl_isEdge_ok k)
/-- impl.mirrorIndex -/
def cx_impl_mirrorIndex : Cx := { N := 17, G := glob, C := tys, ad := fun d => false, wk := false, dp := true }
def F_impl_mirrorIndex (k : Nat) : FArg (.c (.val (.st (.pair (.int .i64) (.pair (.int .i64) (.pair (.sl (.int .i64)) (.pair (.sl (.int .i64)) (.sl (.int .i64)))))))) (.c (.val (.int .i64)) .e)) := fun x K => impl_mirrorIndex x.1 x.2.1 (fun (r0 : Int) => K [⟨(.int .i64), r0, true⟩])
theorem s_impl_mirrorIndex (k : Nat) : SoundF Tryd.prog glob 102 (ftab (.c (.val (.st (.pair (.int .i64) (.pair (.int .i64) (.pair (.sl (.int .i64)) (.pair (.sl (.int .i64)) (.sl (.int .i64)))))))) (.c (.val (.int .i64)) .e)) (F_impl_mirrorIndex k)) :=
  fun_ok (cx := cx_impl_mirrorIndex) (by kernel_rfl) ⟨types, (E_impl_IsMap_ok k).1, (E_impl_IsMap_ok k).2, mixed, rfl⟩ Tryd.func102 rfl (LoopsOK.nil) [] (by kernel_rfl) (fun x K => by kernel_rfl)
def E_impl_mirrorIndex (k : Nat) : Tbl := tcons 102 (ftab (.c (.val (.st (.pair (.int .i64) (.pair (.int .i64) (.pair (.sl (.int .i64)) (.pair (.sl (.int .i64)) (.sl (.int .i64)))))))) (.c (.val (.int .i64)) .e)) (F_impl_mirrorIndex k)) (E_impl_IsMap k)
theorem E_impl_mirrorIndex_ok (k : Nat) : SoundE Tryd.prog glob (E_impl_mirrorIndex k) ∧ NatE (E_impl_mirrorIndex k) := tab_cons (s_impl_mirrorIndex k) (E_impl_IsMap_ok k)
/-- impl.edgeOf -/
def cx_impl_edgeOf : Cx := { N := 27, G := glob, C := tys, ad := fun d => Nat.beq d 11, wk := false, dp := true }
def F_impl_edgeOf (k : Nat) : FArg (.c (.val (.st (.pair (.int .i64) (.pair (.int .i64) (.pair (.sl (.int .i64)) (.pair (.sl (.int .i64)) (.sl (.int .i64)))))))) (.c (.val (.int .i64)) (.c (.val (.int .i64)) .e))) := fun x K => impl_edgeOf x.1 x.2.1 x.2.2.1 (fun (r0 : Int) => K [⟨(.int .i64), r0, true⟩])
theorem s_impl_edgeOf (k : Nat) : SoundF Tryd.prog glob 72 (ftab (.c (.val (.st (.pair (.int .i64) (.pair (.int .i64) (.pair (.sl (.int .i64)) (.pair (.sl (.int .i64)) (.sl (.int .i64)))))))) (.c (.val (.int .i64)) (.c (.val (.int .i64)) .e))) (F_impl_edgeOf k)) :=
  fun_ok (cx := cx_impl_edgeOf) (by kernel_rfl) ⟨types, (E_impl_mirrorIndex_ok k).1, (E_impl_mirrorIndex_ok k).2, mixed, rfl⟩ Tryd.func72 rfl (LoopsOK.nil) [] (by kernel_rfl) (fun x K => by kernel_rfl)
def E_impl_edgeOf (k : Nat) : Tbl := tcons 72 (ftab (.c (.val (.st (.pair (.int .i64) (.pair (.int .i64) (.pair (.sl (.int .i64)) (.pair (.sl (.int .i64)) (.sl (.int .i64)))))))) (.c (.val (.int .i64)) (.c (.val (.int .i64)) .e))) (F_impl_edgeOf k)) (E_impl_mirrorIndex k)
theorem E_impl_edgeOf_ok (k : Nat) : SoundE Tryd.prog glob (E_impl_edgeOf k) ∧ NatE (E_impl_edgeOf k) := tab_cons (s_impl_edgeOf k) (E_impl_mirrorIndex_ok k)
/-- slices.Sort[[]int,int] -/
def F_slices_Sort (k : Nat) : FArg (.c (.val (.sl (.int .i64))) .e) := fun x K => slices_Sort x.1 fun r => K [⟨.sl (.int .i64), r, false⟩]
theorem s_slices_Sort (k : Nat) : SoundI Tryd.prog glob 104 1 (ftab (.c (.val (.sl (.int .i64))) .e) (F_slices_Sort k)) := sort_sound (by kernel_rfl) (fun p c w => Tryd.slices_Sort_int_none p c w) (fun b o c z w h1 h2 h3 => Tryd.slices_Sort_int b o c z w h1 h2 h3)
def E_slices_Sort (k : Nat) : Tbl := tcons (104 + 1000000 * 1) (ftab (.c (.val (.sl (.int .i64))) .e) (F_slices_Sort k)) (E_impl_edgeOf k)
theorem E_slices_Sort_ok (k : Nat) : SoundE Tryd.prog glob (E_slices_Sort k) ∧ NatE (E_slices_Sort k) := tab_consI (by decide) (s_slices_Sort k) (E_impl_edgeOf_ok k)
/-- impl.mirrorMap$1 -/
def cx_impl_mirrorMap_1 : Cx := { N := 31, G := glob, C := tys, ad := fun d => false, wk := false, ip := fun d => bif Nat.beq d 104 then 1 else 0, dp := true }
def sp_impl_mirrorMap_1_l0 : LSp where
  cv := []
  ts := [(1, .pval (.st (.pair (.int .i64) (.pair (.int .i64) (.pair (.sl (.int .i64)) (.pair (.sl (.int .i64)) (.sl (.int .i64)))))))), (2, .pval (.st (.pair (.int .i64) (.pair (.int .i64) (.pair (.sl (.int .i64)) (.pair (.sl (.int .i64)) (.sl (.int .i64)))))))), (5, .own 8), (9, .val (.sl (.int .i64))), (10, .val (.int .i64)), (11, .val (.int .i64))]
  ids := [(8, .row (.int .i64))]
  tx := fun e => match e with | .exit i => bif Nat.beq i 0 then [5] else [] | .ret => [] | .normal => []
  ix := fun e => match e with | .exit i => bif Nat.beq i 0 then [8] else [] | .ret => [] | .normal => []
def F_impl_mirrorMap_1_l0 (k : Nat) : LArg sp_impl_mirrorMap_1_l0 := fun K n x y => impl_mirrorMap_1_l0 k (fun (y0 : List Int) => K (.exit 0) (mkSt [(5, .own 8 1)] [(8, some (.row (.int .i64) y0))])) n x.1 x.2.1 x.2.2.2.1 x.2.2.2.2.1 x.2.2.2.2.2.1 y.1
def LO_impl_mirrorMap_1_l0 (k : Nat) : LTbl := (lcons 3 (ltab sp_impl_mirrorMap_1_l0 (F_impl_mirrorMap_1_l0 k) k) lnil)
theorem lk_impl_mirrorMap_1_l0 (k : Nat) : LoopsOK Tryd.prog glob (E_slices_Sort k) cx_impl_mirrorMap_1 (LO_impl_mirrorMap_1_l0 k) ((3, (loopB Tryd.f103 3)) :: []) :=
  LoopsOK.cons (LoopsOK.nil) (E_slices_Sort_ok k).2 (F := F_impl_mirrorMap_1_l0 k) k [] (by kernel_rfl) (by kernel_rfl) (fun K x y => rfl) (fun n x y K => by kernel_rfl)
def F_impl_mirrorMap_1 (k : Nat) : FArg (.c (.val (.sl (.int .i64))) (.c (.pval (.st (.pair (.int .i64) (.pair (.int .i64) (.pair (.sl (.int .i64)) (.pair (.sl (.int .i64)) (.sl (.int .i64)))))))) (.c (.pval (.st (.pair (.int .i64) (.pair (.int .i64) (.pair (.sl (.int .i64)) (.pair (.sl (.int .i64)) (.sl (.int .i64)))))))) .e))) := fun x K => impl_mirrorMap_1 k x.1 x.2.1 x.2.2.1 (fun (r0 : List Int) => K [⟨(.sl (.int .i64)), r0, true⟩])
theorem s_impl_mirrorMap_1 (k : Nat) : SoundF Tryd.prog glob 103 (ftab (.c (.val (.sl (.int .i64))) (.c (.pval (.st (.pair (.int .i64) (.pair (.int .i64) (.pair (.sl (.int .i64)) (.pair (.sl (.int .i64)) (.sl (.int .i64)))))))) (.c (.pval (.st (.pair (.int .i64) (.pair (.int .i64) (.pair (.sl (.int .i64)) (.pair (.sl (.int .i64)) (.sl (.int .i64)))))))) .e))) (F_impl_mirrorMap_1 k)) :=
  fun_ok (cx := cx_impl_mirrorMap_1) (by kernel_rfl) ⟨types, (E_slices_Sort_ok k).1, (E_slices_Sort_ok k).2, mixed, rfl⟩ Tryd.func103 rfl (lk_impl_mirrorMap_1_l0 k) [0] (by kernel_rfl) (fun x K => by kernel_rfl)
def E_impl_mirrorMap_1 (k : Nat) : Tbl := tcons 103 (ftab (.c (.val (.sl (.int .i64))) (.c (.pval (.st (.pair (.int .i64) (.pair (.int .i64) (.pair (.sl (.int .i64)) (.pair (.sl (.int .i64)) (.sl (.int .i64)))))))) (.c (.pval (.st (.pair (.int .i64) (.pair (.int .i64) (.pair (.sl (.int .i64)) (.pair (.sl (.int .i64)) (.sl (.int .i64)))))))) .e))) (F_impl_mirrorMap_1 k)) (E_slices_Sort k)
theorem E_impl_mirrorMap_1_ok (k : Nat) : SoundE Tryd.prog glob (E_impl_mirrorMap_1 k) ∧ NatE (E_impl_mirrorMap_1 k) := tab_cons (s_impl_mirrorMap_1 k) (E_slices_Sort_ok k)
/-- impl.mirrorMap -/
def cx_impl_mirrorMap : Cx := { N := 44, G := glob, C := tys, ad := fun d => Nat.beq d 36 || Nat.beq d 40, wk := false, dp := true }
def sp_impl_mirrorMap_l0 : LSp where
  cv := [(10000202, 2200042, (.int .i64)), (10000203, 2200043, (.int .i64)), (10000204, 2200044, (.int .i64)), (10000303, 2200063, (.int .i64)), (10000304, 2200064, (.int .i64))]
  ts := [(1, .ptr 1), (2, .ptr 2), (3, .ptr 3), (17, .val (.sl (.int .i64))), (18, .val (.int .i64)), (19, .val (.int .i64))]
  ids := [(1, .box (.st (.pair (.int .i64) (.pair (.int .i64) (.pair (.sl (.int .i64)) (.pair (.sl (.int .i64)) (.sl (.int .i64))))))) (.val (.st (.pair (.int .i64) (.pair (.int .i64) (.pair (.sl (.int .i64)) (.pair (.sl (.int .i64)) (.sl (.int .i64))))))))), (2, .box (.st (.pair (.int .i64) (.pair (.int .i64) (.pair (.sl (.int .i64)) (.pair (.sl (.int .i64)) (.sl (.int .i64))))))) (.agg (.c (.val (.int .i64)) (.c (.val (.int .i64)) (.c (.own 2200042) (.c (.own 2200043) (.c (.own 2200044) .e))))))), (3, .box (.st (.pair (.int .i64) (.pair (.int .i64) (.pair (.sl (.int .i64)) (.pair (.sl (.int .i64)) (.sl (.int .i64))))))) (.agg (.c (.val (.int .i64)) (.c (.val (.int .i64)) (.c (.own 14) (.c (.own 2200063) (.c (.own 2200064) .e))))))), (2200042, .row (.int .i64)), (2200043, .row (.int .i64)), (2200044, .row (.int .i64)), (14, .row (.int .i64)), (2200063, .row (.int .i64)), (2200064, .row (.int .i64))]
  tx := fun e => match e with | .exit i => bif Nat.beq i 0 then [1, 2, 3] else [] | .ret => [] | .normal => []
  ix := fun e => match e with | .exit i => bif Nat.beq i 0 then [1, 2, 3, 2200042, 2200043, 2200044, 14, 2200063, 2200064] else [] | .ret => [] | .normal => []
def F_impl_mirrorMap_l0 (k : Nat) : LArg sp_impl_mirrorMap_l0 := fun K n x y => impl_mirrorMap_l0 k (fun (y0 : Int × Int × (List Int) × (List Int) × List Int) (y1 : Int) (y2 : Int) (y3 : Int) (y4 : Int) (y5 : List Int) (y6 : List Int) (y7 : List Int) (y8 : List Int) (y9 : List Int) (y10 : List Int) => K (.exit 0) (mkSt [(1, .ptr 1 1 []), (2, .ptr 2 1 []), (3, .ptr 3 1 [])] [(1, some (.box (.st (.pair (.int .i64) (.pair (.int .i64) (.pair (.sl (.int .i64)) (.pair (.sl (.int .i64)) (.sl (.int .i64))))))) (.val (.st (.pair (.int .i64) (.pair (.int .i64) (.pair (.sl (.int .i64)) (.pair (.sl (.int .i64)) (.sl (.int .i64))))))) y0))), (2, some (.box (.st (.pair (.int .i64) (.pair (.int .i64) (.pair (.sl (.int .i64)) (.pair (.sl (.int .i64)) (.sl (.int .i64))))))) (.agg [.val (.int .i64) y1, .val (.int .i64) y2, .own 2200042 1, .own 2200043 1, .own 2200044 1]))), (3, some (.box (.st (.pair (.int .i64) (.pair (.int .i64) (.pair (.sl (.int .i64)) (.pair (.sl (.int .i64)) (.sl (.int .i64))))))) (.agg [.val (.int .i64) y3, .val (.int .i64) y4, .own 14 1, .own 2200063 1, .own 2200064 1]))), (2200042, some (.row (.int .i64) y5)), (2200043, some (.row (.int .i64) y6)), (2200044, some (.row (.int .i64) y7)), (14, some (.row (.int .i64) y8)), (2200063, some (.row (.int .i64) y9)), (2200064, some (.row (.int .i64) y10))])) n x.2.2.2.1 x.2.2.2.2.1 x.2.2.2.2.2.1 y.1 y.2.1.1 y.2.1.2.1 y.2.2.1.1 y.2.2.1.2.1 y.2.2.2.1 y.2.2.2.2.1 y.2.2.2.2.2.1 y.2.2.2.2.2.2.1 y.2.2.2.2.2.2.2.1 y.2.2.2.2.2.2.2.2.1
def LO_impl_mirrorMap_l0 (k : Nat) : LTbl := (lcons 3 (ltab sp_impl_mirrorMap_l0 (F_impl_mirrorMap_l0 k) k) lnil)
theorem lk_impl_mirrorMap_l0 (k : Nat) : LoopsOK Tryd.prog glob (E_impl_mirrorMap_1 k) cx_impl_mirrorMap (LO_impl_mirrorMap_l0 k) ((3, (loopB Tryd.f81 3)) :: []) :=
  LoopsOK.cons (LoopsOK.nil) (E_impl_mirrorMap_1_ok k).2 (F := F_impl_mirrorMap_l0 k) k [] (by kernel_rfl) (by kernel_rfl) (fun K x y => rfl) (fun n x y K => by kernel_rfl)
def F_impl_mirrorMap (k : Nat) : FArg (.c (.val (.st (.pair (.int .i64) (.pair (.int .i64) (.pair (.sl (.int .i64)) (.pair (.sl (.int .i64)) (.sl (.int .i64)))))))) .e) := fun x K => impl_mirrorMap k x.1 (fun (r0 : Int × Int × (List Int) × (List Int) × List Int) => K [⟨(.st (.pair (.int .i64) (.pair (.int .i64) (.pair (.sl (.int .i64)) (.pair (.sl (.int .i64)) (.sl (.int .i64))))))), r0, true⟩])
theorem s_impl_mirrorMap (k : Nat) : SoundF Tryd.prog glob 81 (ftab (.c (.val (.st (.pair (.int .i64) (.pair (.int .i64) (.pair (.sl (.int .i64)) (.pair (.sl (.int .i64)) (.sl (.int .i64)))))))) .e) (F_impl_mirrorMap k)) :=
  fun_ok (cx := cx_impl_mirrorMap) (by kernel_rfl) ⟨types, (E_impl_mirrorMap_1_ok k).1, (E_impl_mirrorMap_1_ok k).2, mixed, rfl⟩ Tryd.func81 rfl (lk_impl_mirrorMap_l0 k) [0] (by kernel_rfl) (fun x K => by kernel_rfl)
def E_impl_mirrorMap (k : Nat) : Tbl := tcons 81 (ftab (.c (.val (.st (.pair (.int .i64) (.pair (.int .i64) (.pair (.sl (.int .i64)) (.pair (.sl (.int .i64)) (.sl (.int .i64)))))))) .e) (F_impl_mirrorMap k)) (E_impl_mirrorMap_1 k)
theorem E_impl_mirrorMap_ok (k : Nat) : SoundE Tryd.prog glob (E_impl_mirrorMap k) ∧ NatE (E_impl_mirrorMap k) := tab_cons (s_impl_mirrorMap k) (E_impl_mirrorMap_1_ok k)
/-- impl.MirrorMap -/
def cx_impl_MirrorMap : Cx := { N := 10, G := glob, C := tys, ad := fun d => Nat.beq d 5 || Nat.beq d 9, wk := false, dp := true }
def F_impl_MirrorMap (k : Nat) : FArg (.c (.val (.st (.pair (.int .i64) (.pair (.int .i64) (.pair (.sl (.int .i64)) (.pair (.sl (.int .i64)) (.sl (.int .i64)))))))) .e) := fun x K => impl_MirrorMap k x.1 (fun (r0 : Int × Int × (List Int) × (List Int) × List Int) (r1 : Bool) => K [⟨(.st (.pair (.int .i64) (.pair (.int .i64) (.pair (.sl (.int .i64)) (.pair (.sl (.int .i64)) (.sl (.int .i64))))))), r0, true⟩, ⟨.bool, r1, true⟩])
theorem s_impl_MirrorMap (k : Nat) : SoundF Tryd.prog glob 48 (ftab (.c (.val (.st (.pair (.int .i64) (.pair (.int .i64) (.pair (.sl (.int .i64)) (.pair (.sl (.int .i64)) (.sl (.int .i64)))))))) .e) (F_impl_MirrorMap k)) :=
  fun_ok (cx := cx_impl_MirrorMap) (by kernel_rfl) ⟨types, (E_impl_mirrorMap_ok k).1, (E_impl_mirrorMap_ok k).2, mixed, rfl⟩ Tryd.func48 rfl (LoopsOK.nil) [] (by kernel_rfl) (fun x K => by kernel_rfl)
def E_impl_MirrorMap (k : Nat) : Tbl := tcons 48 (ftab (.c (.val (.st (.pair (.int .i64) (.pair (.int .i64) (.pair (.sl (.int .i64)) (.pair (.sl (.int .i64)) (.sl (.int .i64)))))))) .e) (F_impl_MirrorMap k)) (E_impl_mirrorMap k)
theorem E_impl_MirrorMap_ok (k : Nat) : SoundE Tryd.prog glob (E_impl_MirrorMap k) ∧ NatE (E_impl_MirrorMap k) := tab_cons (s_impl_MirrorMap k) (E_impl_mirrorMap_ok k)
/-- laws.eqIntS -/
def cx_laws_eqIntS : Cx := { N := 26, G := glob, C := tys, ad := fun d => false, wk := false }
def sp_laws_eqIntS_l0 : LSp where
  cv := []
  ts := [(0, .val (.sl (.int .i64))), (1, .val (.sl (.int .i64))), (5, .val (.int .i64))]
  ids := []
  tx := fun e => match e with | .exit i => bif Nat.beq i 0 then [] else [] | .ret => [4] | .normal => []
  ix := fun e => match e with | .exit i => bif Nat.beq i 0 then [] else [] | .ret => [] | .normal => []
def F_laws_eqIntS_l0 (k : Nat) : LArg sp_laws_eqIntS_l0 := fun K n x y => laws_eqIntS_l0 k (K (.exit 0) (mkSt [] [])) (fun (y0 : Bool) => K (.ret) (mkSt [(4, .val .bool y0)] [])) n x.1 x.2.1 x.2.2.1
def LO_laws_eqIntS_l0 (k : Nat) : LTbl := (lcons 4 (ltab sp_laws_eqIntS_l0 (F_laws_eqIntS_l0 k) k) lnil)
theorem lk_laws_eqIntS_l0 (k : Nat) : LoopsOK Tryd.prog glob (E_impl_MirrorMap k) cx_laws_eqIntS (LO_laws_eqIntS_l0 k) ((4, (loopB Tryd.f42 4)) :: []) :=
  LoopsOK.cons (LoopsOK.nil) (E_impl_MirrorMap_ok k).2 (F := F_laws_eqIntS_l0 k) k [] (by kernel_rfl) (by kernel_rfl) (fun K x y => rfl) (fun n x y K => by kernel_rfl)
def F_laws_eqIntS (k : Nat) : FArg (.c (.val (.sl (.int .i64))) (.c (.val (.sl (.int .i64))) .e)) := fun x K => laws_eqIntS k x.1 x.2.1 (fun (r0 : Bool) => K [⟨.bool, r0, true⟩])
theorem s_laws_eqIntS (k : Nat) : SoundF Tryd.prog glob 42 (ftab (.c (.val (.sl (.int .i64))) (.c (.val (.sl (.int .i64))) .e)) (F_laws_eqIntS k)) :=
  fun_ok (cx := cx_laws_eqIntS) (by kernel_rfl) ⟨types, (E_impl_MirrorMap_ok k).1, (E_impl_MirrorMap_ok k).2, mixed, rfl⟩ Tryd.func42 rfl (lk_laws_eqIntS_l0 k) [0] (by kernel_rfl) (fun x K => by kernel_rfl)
def E_laws_eqIntS (k : Nat) : Tbl := tcons 42 (ftab (.c (.val (.sl (.int .i64))) (.c (.val (.sl (.int .i64))) .e)) (F_laws_eqIntS k)) (E_impl_MirrorMap k)
theorem E_laws_eqIntS_ok (k : Nat) : SoundE Tryd.prog glob (E_laws_eqIntS k) ∧ NatE (E_laws_eqIntS k) := tab_cons (s_laws_eqIntS k) (E_impl_MirrorMap_ok k)
/-- laws.eqMap -/
def cx_laws_eqMap : Cx := { N := 33, G := glob, C := tys, ad := fun d => false, wk := false }
def F_laws_eqMap (k : Nat) : FArg (.c (.val (.st (.pair (.int .i64) (.pair (.int .i64) (.pair (.sl (.int .i64)) (.pair (.sl (.int .i64)) (.sl (.int .i64)))))))) (.c (.val (.st (.pair (.int .i64) (.pair (.int .i64) (.pair (.sl (.int .i64)) (.pair (.sl (.int .i64)) (.sl (.int .i64)))))))) .e)) := fun x K => laws_eqMap k x.1 x.2.1 (fun (r0 : Bool) => K [⟨.bool, r0, true⟩])
theorem s_laws_eqMap (k : Nat) : SoundF Tryd.prog glob 17 (ftab (.c (.val (.st (.pair (.int .i64) (.pair (.int .i64) (.pair (.sl (.int .i64)) (.pair (.sl (.int .i64)) (.sl (.int .i64)))))))) (.c (.val (.st (.pair (.int .i64) (.pair (.int .i64) (.pair (.sl (.int .i64)) (.pair (.sl (.int .i64)) (.sl (.int .i64)))))))) .e)) (F_laws_eqMap k)) :=
  fun_ok (cx := cx_laws_eqMap) (by kernel_rfl) ⟨types, (E_laws_eqIntS_ok k).1, (E_laws_eqIntS_ok k).2, mixed, rfl⟩ Tryd.func17 rfl (LoopsOK.nil) [] (by kernel_rfl) (fun x K => by kernel_rfl)
def E_laws_eqMap (k : Nat) : Tbl := tcons 17 (ftab (.c (.val (.st (.pair (.int .i64) (.pair (.int .i64) (.pair (.sl (.int .i64)) (.pair (.sl (.int .i64)) (.sl (.int .i64)))))))) (.c (.val (.st (.pair (.int .i64) (.pair (.int .i64) (.pair (.sl (.int .i64)) (.pair (.sl (.int .i64)) (.sl (.int .i64)))))))) .e)) (F_laws_eqMap k)) (E_laws_eqIntS k)
theorem E_laws_eqMap_ok (k : Nat) : SoundE Tryd.prog glob (E_laws_eqMap k) ∧ NatE (E_laws_eqMap k) := tab_cons (s_laws_eqMap k) (E_laws_eqIntS_ok k)
/-- laws.markIntS -/
def cx_laws_markIntS_in : Cx := { N := 19, G := glob, C := tys, ad := fun d => false, wk := true, dp := true }
def sp_laws_markIntS_in_l0 : LSp where
  cv := []
  ts := [(0, .own 3000000), (1, .val (.int .i64)), (5, .val (.int .i64))]
  ids := [(3000000, .row (.int .i64))]
  tx := fun e => match e with | .exit i => bif Nat.beq i 0 then [1] else [] | .ret => [] | .normal => []
  ix := fun e => match e with | .exit i => bif Nat.beq i 0 then [3000000] else [] | .ret => [] | .normal => []
def F_laws_markIntS_in_l0 (k : Nat) : LArg sp_laws_markIntS_in_l0 := fun K n x y => laws_markIntS_in_l0 k (fun (y0 : Int) (y1 : List Int) => K (.exit 0) (mkSt [(1, .val (.int .i64) y0)] [(3000000, some (.row (.int .i64) y1))])) n x.2.1 x.2.2.1 y.1
def LO_laws_markIntS_in_l0 (k : Nat) : LTbl := (lcons 2 (ltab sp_laws_markIntS_in_l0 (F_laws_markIntS_in_l0 k) k) lnil)
theorem lk_laws_markIntS_in_l0 (k : Nat) : LoopsOK Tryd.prog glob (E_laws_eqMap k) cx_laws_markIntS_in (LO_laws_markIntS_in_l0 k) ((2, (loopB Tryd.f43 2)) :: []) :=
  LoopsOK.cons (LoopsOK.nil) (E_laws_eqMap_ok k).2 (F := F_laws_markIntS_in_l0 k) k [] (by kernel_rfl) (by kernel_rfl) (fun K x y => rfl) (fun n x y K => by kernel_rfl)
def F_laws_markIntS_in (k : Nat) : FArg (.c (.val (.sl (.int .i64))) (.c (.val (.int .i64)) .e)) := fun x K => laws_markIntS_in k x.1 x.2.1 (fun (r0 : List Int) (r1 : Int) => K [⟨(.sl (.int .i64)), r0, false⟩, ⟨(.int .i64), r1, true⟩])
theorem s_laws_markIntS_in (k : Nat) : SoundI Tryd.prog glob 43 1 (ftab (.c (.val (.sl (.int .i64))) (.c (.val (.int .i64)) .e)) (F_laws_markIntS_in k)) :=
  funI_ok (m := 1) (cx := cx_laws_markIntS_in) (by kernel_rfl) ⟨types, (E_laws_eqMap_ok k).1, (E_laws_eqMap_ok k).2, mixed, rfl⟩ Tryd.func43 rfl (lk_laws_markIntS_in_l0 k) [0] (by kernel_rfl) (fun x K => by kernel_rfl)
def E_laws_markIntS_in (k : Nat) : Tbl := tcons (43 + 1000000 * 1) (ftab (.c (.val (.sl (.int .i64))) (.c (.val (.int .i64)) .e)) (F_laws_markIntS_in k)) (E_laws_eqMap k)
theorem E_laws_markIntS_in_ok (k : Nat) : SoundE Tryd.prog glob (E_laws_markIntS_in k) ∧ NatE (E_laws_markIntS_in k) := tab_consI (by decide) (s_laws_markIntS_in k) (E_laws_eqMap_ok k)
/-- laws.markMap -/
def cx_laws_markMap_in : Cx := { N := 18, G := glob, C := tys, ad := fun d => false, wk := true, ip := fun d => bif Nat.beq d 43 then 1 else 0, dp := true }
def F_laws_markMap_in (k : Nat) : FArg (.c (.val (.st (.pair (.int .i64) (.pair (.int .i64) (.pair (.sl (.int .i64)) (.pair (.sl (.int .i64)) (.sl (.int .i64)))))))) (.c (.val (.int .i64)) .e)) := fun x K => laws_markMap_in k x.1 x.2.1 (fun (r0 : Int × Int × (List Int) × (List Int) × List Int) (r1 : Int) => K [⟨(.st (.pair (.int .i64) (.pair (.int .i64) (.pair (.sl (.int .i64)) (.pair (.sl (.int .i64)) (.sl (.int .i64))))))), r0, false⟩, ⟨(.int .i64), r1, true⟩])
theorem s_laws_markMap_in (k : Nat) : SoundI Tryd.prog glob 18 1 (ftab (.c (.val (.st (.pair (.int .i64) (.pair (.int .i64) (.pair (.sl (.int .i64)) (.pair (.sl (.int .i64)) (.sl (.int .i64)))))))) (.c (.val (.int .i64)) .e)) (F_laws_markMap_in k)) :=
  funI_ok (m := 1) (cx := cx_laws_markMap_in) (by kernel_rfl) ⟨types, (E_laws_markIntS_in_ok k).1, (E_laws_markIntS_in_ok k).2, mixed, rfl⟩ Tryd.func18 rfl (LoopsOK.nil) [] (by kernel_rfl) (fun x K => by kernel_rfl)
def E_laws_markMap_in (k : Nat) : Tbl := tcons (18 + 1000000 * 1) (ftab (.c (.val (.st (.pair (.int .i64) (.pair (.int .i64) (.pair (.sl (.int .i64)) (.pair (.sl (.int .i64)) (.sl (.int .i64)))))))) (.c (.val (.int .i64)) .e)) (F_laws_markMap_in k)) (E_laws_markIntS_in k)
theorem E_laws_markMap_in_ok (k : Nat) : SoundE Tryd.prog glob (E_laws_markMap_in k) ∧ NatE (E_laws_markMap_in k) := tab_consI (by decide) (s_laws_markMap_in k) (E_laws_markIntS_in_ok k)
/-- laws.heldIntS -/
def cx_laws_heldIntS : Cx := { N := 21, G := glob, C := tys, ad := fun d => false, wk := false }
def sp_laws_heldIntS_l0 : LSp where
  cv := []
  ts := [(0, .val (.sl (.int .i64))), (1, .val (.int .i64)), (5, .val (.int .i64))]
  ids := []
  tx := fun e => match e with | .exit i => bif Nat.beq i 0 then [1] else [] | .ret => [4] | .normal => []
  ix := fun e => match e with | .exit i => bif Nat.beq i 0 then [] else [] | .ret => [] | .normal => []
def F_laws_heldIntS_l0 (k : Nat) : LArg sp_laws_heldIntS_l0 := fun K n x y => laws_heldIntS_l0 k (fun (y0 : Int) => K (.exit 0) (mkSt [(1, .val (.int .i64) y0)] [])) (fun (y0 : Int) => K (.ret) (mkSt [(4, .val (.int .i64) y0)] [])) n x.1 x.2.1 x.2.2.1
def LO_laws_heldIntS_l0 (k : Nat) : LTbl := (lcons 2 (ltab sp_laws_heldIntS_l0 (F_laws_heldIntS_l0 k) k) lnil)
theorem lk_laws_heldIntS_l0 (k : Nat) : LoopsOK Tryd.prog glob (E_laws_markMap_in k) cx_laws_heldIntS (LO_laws_heldIntS_l0 k) ((2, (loopB Tryd.f44 2)) :: []) :=
  LoopsOK.cons (LoopsOK.nil) (E_laws_markMap_in_ok k).2 (F := F_laws_heldIntS_l0 k) k [] (by kernel_rfl) (by kernel_rfl) (fun K x y => rfl) (fun n x y K => by kernel_rfl)
def F_laws_heldIntS (k : Nat) : FArg (.c (.val (.sl (.int .i64))) (.c (.val (.int .i64)) .e)) := fun x K => laws_heldIntS k x.1 x.2.1 (fun (r0 : Int) => K [⟨(.int .i64), r0, true⟩])
theorem s_laws_heldIntS (k : Nat) : SoundF Tryd.prog glob 44 (ftab (.c (.val (.sl (.int .i64))) (.c (.val (.int .i64)) .e)) (F_laws_heldIntS k)) :=
  fun_ok (cx := cx_laws_heldIntS) (by kernel_rfl) ⟨types, (E_laws_markMap_in_ok k).1, (E_laws_markMap_in_ok k).2, mixed, rfl⟩ Tryd.func44 rfl (lk_laws_heldIntS_l0 k) [0] (by kernel_rfl) (fun x K => by kernel_rfl)
def E_laws_heldIntS (k : Nat) : Tbl := tcons 44 (ftab (.c (.val (.sl (.int .i64))) (.c (.val (.int .i64)) .e)) (F_laws_heldIntS k)) (E_laws_markMap_in k)
theorem E_laws_heldIntS_ok (k : Nat) : SoundE Tryd.prog glob (E_laws_heldIntS k) ∧ NatE (E_laws_heldIntS k) := tab_cons (s_laws_heldIntS k) (E_laws_markMap_in_ok k)
/-- laws.heldMap -/
def cx_laws_heldMap : Cx := { N := 24, G := glob, C := tys, ad := fun d => false, wk := false }
def F_laws_heldMap (k : Nat) : FArg (.c (.val (.st (.pair (.int .i64) (.pair (.int .i64) (.pair (.sl (.int .i64)) (.pair (.sl (.int .i64)) (.sl (.int .i64)))))))) (.c (.val (.int .i64)) .e)) := fun x K => laws_heldMap k x.1 x.2.1 (fun (r0 : Int) => K [⟨(.int .i64), r0, true⟩])
theorem s_laws_heldMap (k : Nat) : SoundF Tryd.prog glob 19 (ftab (.c (.val (.st (.pair (.int .i64) (.pair (.int .i64) (.pair (.sl (.int .i64)) (.pair (.sl (.int .i64)) (.sl (.int .i64)))))))) (.c (.val (.int .i64)) .e)) (F_laws_heldMap k)) :=
  fun_ok (cx := cx_laws_heldMap) (by kernel_rfl) ⟨types, (E_laws_heldIntS_ok k).1, (E_laws_heldIntS_ok k).2, mixed, rfl⟩ Tryd.func19 rfl (LoopsOK.nil) [] (by kernel_rfl) (fun x K => by kernel_rfl)
def E_laws_heldMap (k : Nat) : Tbl := tcons 19 (ftab (.c (.val (.st (.pair (.int .i64) (.pair (.int .i64) (.pair (.sl (.int .i64)) (.pair (.sl (.int .i64)) (.sl (.int .i64)))))))) (.c (.val (.int .i64)) .e)) (F_laws_heldMap k)) (E_laws_heldIntS k)
theorem E_laws_heldMap_ok (k : Nat) : SoundE Tryd.prog glob (E_laws_heldMap k) ∧ NatE (E_laws_heldMap k) := tab_cons (s_laws_heldMap k) (E_laws_heldIntS_ok k)
/-- laws.FnExactMirrorMap -/
def cx_laws_FnExactMirrorMap : Cx := { N := 96, G := glob, C := tys, ad := fun d => Nat.beq d 16 || Nat.beq d 21 || Nat.beq d 22 || Nat.beq d 26 || Nat.beq d 29 || Nat.beq d 34 || Nat.beq d 54 || Nat.beq d 67 || Nat.beq d 75 || Nat.beq d 76 || Nat.beq d 81 || Nat.beq d 90, wk := false, ip := fun d => bif Nat.beq d 18 then 1 else 0, dp := true }
def F_laws_FnExactMirrorMap (k : Nat) : FArg (.c (.val (.st (.pair (.int .i64) (.pair (.int .i64) (.pair (.sl (.int .i64)) (.pair (.sl (.int .i64)) (.sl (.int .i64)))))))) .e) := fun x K => laws_FnExactMirrorMap k x.1 (fun (r0 : Bool) => K [⟨.bool, r0, true⟩])
theorem q_laws_FnExactMirrorMap (k : Nat) (c0 : (Int × Int × (List Int) × (List Int) × List Int) → Int → ∀ {R : Type}, (Int → Option R) → Option R) (c1 : (Int × Int × (List Int) × (List Int) × List Int) → ∀ {R : Type}, ((Int × Int × (List Int) × (List Int) × List Int) → Option R) → Option R) (c2 : (Int × Int × (List Int) × (List Int) × List Int) → ∀ {R : Type}, ((Int × Int × (List Int) × (List Int) × List Int) → Bool → Option R) → Option R) (c3 : (Int × Int × (List Int) × (List Int) × List Int) → ∀ {R : Type}, ((Int × Int × (List Int) × (List Int) × List Int) → Bool → Option R) → Option R) (c4 : (Int × Int × (List Int) × (List Int) × List Int) → (Int × Int × (List Int) × (List Int) × List Int) → ∀ {R : Type}, (Bool → Option R) → Option R) (c5 : (Int × Int × (List Int) × (List Int) × List Int) → Int → ∀ {R : Type}, ((Int × Int × (List Int) × (List Int) × List Int) → Int → Option R) → Option R) (c6 : (Int × Int × (List Int) × (List Int) × List Int) → Int → ∀ {R : Type}, (Int → Option R) → Option R) {R : Type} (x : ((.c (.val (.st (.pair (.int .i64) (.pair (.int .i64) (.pair (.sl (.int .i64)) (.pair (.sl (.int .i64)) (.sl (.int .i64)))))))) .e) : Sh).den) (K : List Res → Option R) : (fun (x : Int × Int × (List Int) × (List Int) × List Int) (K : Bool → Option R) =>
    c0 x (1048576 : Int) fun (r : Int) =>
    bif decide (r < (0 : Int)) then
      K true
    else
      c1 x fun (r0 : Int × Int × (List Int) × (List Int) × List Int) =>
      c2 r0 fun (r1 : Int × Int × (List Int) × (List Int) × List Int) (r2 : Bool) =>
      c1 x fun (r3 : Int × Int × (List Int) × (List Int) × List Int) =>
      c3 r3 fun (r4 : Int × Int × (List Int) × (List Int) × List Int) (r5 : Bool) =>
      c4 r4 r1 fun (r6 : Bool) =>
      bif !r6 then
        K false
      else
        bif !(r5 == r2) then
          K false
        else
          c1 x fun (r7 : Int × Int × (List Int) × (List Int) × List Int) =>
          c4 r3 r7 fun (r8 : Bool) =>
          bif !r8 then
            K false
          else
            c5 r3 (1 : Int) fun (t : Int × Int × (List Int) × (List Int) × List Int) (r9 : Int) =>
            bif decide (r9 < (0 : Int)) then
              K false
            else
              c4 r4 r1 fun (r10 : Bool) =>
              bif !r10 then
                K false
              else
                bif !(r5 == r2) then
                  K false
                else
                  c5 r4 (1 : Int) fun (t0 : Int × Int × (List Int) × (List Int) × List Int) (r11 : Int) =>
                  c6 (r4.1, (r4.2.1, t0.2.2)) (1 : Int) fun (r12 : Int) =>
                  bif decide (r12 < (0 : Int)) then
                    K false
                  else
                    bif !(decide (r12 = r11)) then
                      K false
                    else
                      c1 x fun (r13 : Int × Int × (List Int) × (List Int) × List Int) =>
                      c3 r13 fun (r14 : Int × Int × (List Int) × (List Int) × List Int) (r15 : Bool) =>
                      c4 r14 r1 fun (r16 : Bool) =>
                      bif !r16 then
                        K false
                      else
                        bif !(r15 == r2) then
                          K false
                        else
                          c6 (r4.1, (r4.2.1, t0.2.2)) (1 : Int) fun (r17 : Int) =>
                          bif decide (r17 < (0 : Int)) then
                            K false
                          else
                            bif !(decide (r17 = r11)) then
                              K false
                            else
                              K true) x.1 (fun (r0 : Bool) => K [⟨.bool, r0, true⟩]) = evFun ((tcons 20 (ftab (.c (.val (.st (.pair (.int .i64) (.pair (.int .i64) (.pair (.sl (.int .i64)) (.pair (.sl (.int .i64)) (.sl (.int .i64)))))))) (.c (.val (.int .i64)) .e)) fun x K => c0 x.1 x.2.1 (fun (r0 : Int) => K [⟨(.int .i64), r0, true⟩])) (tcons 22 (ftab (.c (.val (.st (.pair (.int .i64) (.pair (.int .i64) (.pair (.sl (.int .i64)) (.pair (.sl (.int .i64)) (.sl (.int .i64)))))))) .e) fun x K => c1 x.1 (fun (r0 : Int × Int × (List Int) × (List Int) × List Int) => K [⟨(.st (.pair (.int .i64) (.pair (.int .i64) (.pair (.sl (.int .i64)) (.pair (.sl (.int .i64)) (.sl (.int .i64))))))), r0, true⟩])) (tcons 47 (ftab (.c (.val (.st (.pair (.int .i64) (.pair (.int .i64) (.pair (.sl (.int .i64)) (.pair (.sl (.int .i64)) (.sl (.int .i64)))))))) .e) fun x K => c2 x.1 (fun (r0 : Int × Int × (List Int) × (List Int) × List Int) (r1 : Bool) => K [⟨(.st (.pair (.int .i64) (.pair (.int .i64) (.pair (.sl (.int .i64)) (.pair (.sl (.int .i64)) (.sl (.int .i64))))))), r0, false⟩, ⟨.bool, r1, true⟩])) (tcons 48 (ftab (.c (.val (.st (.pair (.int .i64) (.pair (.int .i64) (.pair (.sl (.int .i64)) (.pair (.sl (.int .i64)) (.sl (.int .i64)))))))) .e) fun x K => c3 x.1 (fun (r0 : Int × Int × (List Int) × (List Int) × List Int) (r1 : Bool) => K [⟨(.st (.pair (.int .i64) (.pair (.int .i64) (.pair (.sl (.int .i64)) (.pair (.sl (.int .i64)) (.sl (.int .i64))))))), r0, true⟩, ⟨.bool, r1, true⟩])) (tcons 17 (ftab (.c (.val (.st (.pair (.int .i64) (.pair (.int .i64) (.pair (.sl (.int .i64)) (.pair (.sl (.int .i64)) (.sl (.int .i64)))))))) (.c (.val (.st (.pair (.int .i64) (.pair (.int .i64) (.pair (.sl (.int .i64)) (.pair (.sl (.int .i64)) (.sl (.int .i64)))))))) .e)) fun x K => c4 x.1 x.2.1 (fun (r0 : Bool) => K [⟨.bool, r0, true⟩])) (tcons (18 + 1000000 * 1) (ftab (.c (.val (.st (.pair (.int .i64) (.pair (.int .i64) (.pair (.sl (.int .i64)) (.pair (.sl (.int .i64)) (.sl (.int .i64)))))))) (.c (.val (.int .i64)) .e)) fun x K => c5 x.1 x.2.1 (fun (r0 : Int × Int × (List Int) × (List Int) × List Int) (r1 : Int) => K [⟨(.st (.pair (.int .i64) (.pair (.int .i64) (.pair (.sl (.int .i64)) (.pair (.sl (.int .i64)) (.sl (.int .i64))))))), r0, false⟩, ⟨(.int .i64), r1, true⟩])) (tcons 19 (ftab (.c (.val (.st (.pair (.int .i64) (.pair (.int .i64) (.pair (.sl (.int .i64)) (.pair (.sl (.int .i64)) (.sl (.int .i64)))))))) (.c (.val (.int .i64)) .e)) fun x K => c6 x.1 x.2.1 (fun (r0 : Int) => K [⟨(.int .i64), r0, true⟩])) tnil)))))))) lnil cx_laws_FnExactMirrorMap Tryd.f14 (give (.c (.val (.st (.pair (.int .i64) (.pair (.int .i64) (.pair (.sl (.int .i64)) (.pair (.sl (.int .i64)) (.sl (.int .i64)))))))) .e) x) K := by kernel_rfl
theorem e_laws_FnExactMirrorMap (k : Nat) : SoundE Tryd.prog glob (tcons 20 (ftab (.c (.val (.st (.pair (.int .i64) (.pair (.int .i64) (.pair (.sl (.int .i64)) (.pair (.sl (.int .i64)) (.sl (.int .i64)))))))) (.c (.val (.int .i64)) .e)) (F_laws_szMap k)) (tcons 22 (ftab (.c (.val (.st (.pair (.int .i64) (.pair (.int .i64) (.pair (.sl (.int .i64)) (.pair (.sl (.int .i64)) (.sl (.int .i64)))))))) .e) (F_laws_toMap k)) (tcons 47 (ftab (.c (.val (.st (.pair (.int .i64) (.pair (.int .i64) (.pair (.sl (.int .i64)) (.pair (.sl (.int .i64)) (.sl (.int .i64)))))))) .e) (F_spec_MirrorMap k)) (tcons 48 (ftab (.c (.val (.st (.pair (.int .i64) (.pair (.int .i64) (.pair (.sl (.int .i64)) (.pair (.sl (.int .i64)) (.sl (.int .i64)))))))) .e) (F_impl_MirrorMap k)) (tcons 17 (ftab (.c (.val (.st (.pair (.int .i64) (.pair (.int .i64) (.pair (.sl (.int .i64)) (.pair (.sl (.int .i64)) (.sl (.int .i64)))))))) (.c (.val (.st (.pair (.int .i64) (.pair (.int .i64) (.pair (.sl (.int .i64)) (.pair (.sl (.int .i64)) (.sl (.int .i64)))))))) .e)) (F_laws_eqMap k)) (tcons (18 + 1000000 * 1) (ftab (.c (.val (.st (.pair (.int .i64) (.pair (.int .i64) (.pair (.sl (.int .i64)) (.pair (.sl (.int .i64)) (.sl (.int .i64)))))))) (.c (.val (.int .i64)) .e)) (F_laws_markMap_in k)) (tcons 19 (ftab (.c (.val (.st (.pair (.int .i64) (.pair (.int .i64) (.pair (.sl (.int .i64)) (.pair (.sl (.int .i64)) (.sl (.int .i64)))))))) (.c (.val (.int .i64)) .e)) (F_laws_heldMap k)) tnil))))))) ∧ NatE (tcons 20 (ftab (.c (.val (.st (.pair (.int .i64) (.pair (.int .i64) (.pair (.sl (.int .i64)) (.pair (.sl (.int .i64)) (.sl (.int .i64)))))))) (.c (.val (.int .i64)) .e)) (F_laws_szMap k)) (tcons 22 (ftab (.c (.val (.st (.pair (.int .i64) (.pair (.int .i64) (.pair (.sl (.int .i64)) (.pair (.sl (.int .i64)) (.sl (.int .i64)))))))) .e) (F_laws_toMap k)) (tcons 47 (ftab (.c (.val (.st (.pair (.int .i64) (.pair (.int .i64) (.pair (.sl (.int .i64)) (.pair (.sl (.int .i64)) (.sl (.int .i64)))))))) .e) (F_spec_MirrorMap k)) (tcons 48 (ftab (.c (.val (.st (.pair (.int .i64) (.pair (.int .i64) (.pair (.sl (.int .i64)) (.pair (.sl (.int .i64)) (.sl (.int .i64)))))))) .e) (F_impl_MirrorMap k)) (tcons 17 (ftab (.c (.val (.st (.pair (.int .i64) (.pair (.int .i64) (.pair (.sl (.int .i64)) (.pair (.sl (.int .i64)) (.sl (.int .i64)))))))) (.c (.val (.st (.pair (.int .i64) (.pair (.int .i64) (.pair (.sl (.int .i64)) (.pair (.sl (.int .i64)) (.sl (.int .i64)))))))) .e)) (F_laws_eqMap k)) (tcons (18 + 1000000 * 1) (ftab (.c (.val (.st (.pair (.int .i64) (.pair (.int .i64) (.pair (.sl (.int .i64)) (.pair (.sl (.int .i64)) (.sl (.int .i64)))))))) (.c (.val (.int .i64)) .e)) (F_laws_markMap_in k)) (tcons 19 (ftab (.c (.val (.st (.pair (.int .i64) (.pair (.int .i64) (.pair (.sl (.int .i64)) (.pair (.sl (.int .i64)) (.sl (.int .i64)))))))) (.c (.val (.int .i64)) .e)) (F_laws_heldMap k)) tnil))))))) := (tab_cons (s_laws_szMap k) (tab_cons (s_laws_toMap k) (tab_cons (s_spec_MirrorMap k) (tab_cons (s_impl_MirrorMap k) (tab_cons (s_laws_eqMap k) (tab_consI (by decide) (s_laws_markMap_in k) (tab_cons (s_laws_heldMap k) e0)))))))
theorem s_laws_FnExactMirrorMap (k : Nat) : SoundF Tryd.prog glob 14 (ftab (.c (.val (.st (.pair (.int .i64) (.pair (.int .i64) (.pair (.sl (.int .i64)) (.pair (.sl (.int .i64)) (.sl (.int .i64)))))))) .e) (F_laws_FnExactMirrorMap k)) :=
  fun_ok (cx := cx_laws_FnExactMirrorMap) (by kernel_rfl) ⟨types, (e_laws_FnExactMirrorMap k).1, (e_laws_FnExactMirrorMap k).2, mixed, rfl⟩ Tryd.func14 rfl (LoopsOK.nil) [] (by kernel_rfl) (fun x K => q_laws_FnExactMirrorMap k (fun a0 a1 {_} K => laws_szMap a0 a1 K) (fun a0 {_} K => laws_toMap k a0 K) (fun a0 {_} K => spec_MirrorMap k a0 K) (fun a0 {_} K => impl_MirrorMap k a0 K) (fun a0 a1 {_} K => laws_eqMap k a0 a1 K) (fun a0 a1 {_} K => laws_markMap_in k a0 a1 K) (fun a0 a1 {_} K => laws_heldMap k a0 a1 K) x K)
def E_laws_FnExactMirrorMap (k : Nat) : Tbl := tcons 14 (ftab (.c (.val (.st (.pair (.int .i64) (.pair (.int .i64) (.pair (.sl (.int .i64)) (.pair (.sl (.int .i64)) (.sl (.int .i64)))))))) .e) (F_laws_FnExactMirrorMap k)) (E_laws_heldMap k)
theorem E_laws_FnExactMirrorMap_ok (k : Nat) : SoundE Tryd.prog glob (E_laws_FnExactMirrorMap k) ∧ NatE (E_laws_FnExactMirrorMap k) := tab_cons (s_laws_FnExactMirrorMap k) (E_laws_heldMap_ok k)
end Go.Proofs.YtllmbnfceffgmaaDoor.TieMirrorMap
