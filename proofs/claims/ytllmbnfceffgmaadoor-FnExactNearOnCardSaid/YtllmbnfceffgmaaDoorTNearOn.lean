import Derived.Test.YtllmbnfceffgmaaDoorEv3
import Derived.Test.YtllmbnfceffgmaaDoorLgDEFTALBL
import Derived.KernelRfl
import Derived.Eval
import Derived.Test.YtllmbnfceffgmaaDoorProg
import Derived.Test.YtllmbnfceffgmaaDoorChecked
set_option linter.unusedVariables false
set_option linter.unusedSimpArgs false
set_option linter.unusedSectionVars false
set_option linter.unusedVariables false
set_option maxRecDepth 100000
namespace Go.Proofs.YtllmbnfceffgmaaDoor.TieNearOn
open Go Go.Ev Go.Lg Go.Proofs
def tys : Nat → Option Ty := lookT [(3, (.int .i64)), (4, .bool), (22, (.sl (.int .i64))), (24, (.st (.pair (.int .i64) (.pair (.int .i64) (.pair (.sl (.int .i64)) (.pair (.sl (.int .i64)) (.sl (.int .i64)))))))), (30, (.st (.pair (.int .i64) (.pair (.int .i64) (.pair (.sl (.int .i64)) (.pair (.sl (.int .i64)) (.sl (.int .i64)))))))), (44, (.st (.pair (.int .i64) (.int .i64)))), (66, (.sl (.sl (.int .i64)))), (101, (.arr 6 (.st (.pair (.int .i64) (.int .i64)))))]
def glob : Nat → AV := fun g => bif Nat.beq g 0 then .pval (.arr 6 (.st (.pair (.int .i64) (.int .i64)))) impl_directions else .bot
theorem types : Types Tryd.prog tys := types_of (by kernel_rfl)
theorem mixed : Tryd.prog.follows .mixedOrders = true := Checked.mixed Tryd.checked
theorem e0 : SoundE Tryd.prog glob tnil ∧ NatE tnil := ⟨tnil_sound, tnil_nat⟩
theorem tab_cons {n : Nat} {t : FFun} {E : Tbl} (h : SoundF Tryd.prog glob n t) (h2 : SoundE Tryd.prog glob E ∧ NatE E) : SoundE Tryd.prog glob (tcons n t E) ∧ NatE (tcons n t E) := ⟨tcons_sound h h2.1, tcons_nat h h2.2⟩
theorem tab_consI {n m : Nat} {t : FFun} {E : Tbl} (hm : m ≠ 0) (h : SoundI Tryd.prog glob n m t) (h2 : SoundE Tryd.prog glob E ∧ NatE E) : SoundE Tryd.prog glob (tcons (n + 1000000 * m) t E) ∧ NatE (tcons (n + 1000000 * m) t E) := ⟨tconsI_sound hm h h2.1, tconsI_nat h h2.2⟩
/-- laws.szIntS -/
def cx_laws_szIntS : Cx := { N := 12, G := glob, C := tys, ad := fun d => false, wk := false }
def F_laws_szIntS (k : Nat) : FArg (.c (.val (.sl (.int .i64))) (.c (.val (.int .i64)) .e)) := fun x K => laws_szIntS x.1 x.2.1 (fun (r0 : Int) => K [⟨(.int .i64), r0, true⟩])
theorem s_laws_szIntS (k : Nat) : SoundF Tryd.prog glob 54 (ftab (.c (.val (.sl (.int .i64))) (.c (.val (.int .i64)) .e)) (F_laws_szIntS k)) :=
  fun_ok (cx := cx_laws_szIntS) (by kernel_rfl) ⟨types, (e0).1, (e0).2, mixed, rfl⟩ Tryd.func54 rfl (LoopsOK.nil) [] (by kernel_rfl) (fun x K => by kernel_rfl)
def E_laws_szIntS (k : Nat) : Tbl := tcons 54 (ftab (.c (.val (.sl (.int .i64))) (.c (.val (.int .i64)) .e)) (F_laws_szIntS k)) (tnil)
theorem E_laws_szIntS_ok (k : Nat) : SoundE Tryd.prog glob (E_laws_szIntS k) ∧ NatE (E_laws_szIntS k) := tab_cons (s_laws_szIntS k) (e0)
/-- laws.szMap -/
def cx_laws_szMap : Cx := { N := 24, G := glob, C := tys, ad := fun d => false, wk := false }
def F_laws_szMap (k : Nat) : FArg (.c (.val (.st (.pair (.int .i64) (.pair (.int .i64) (.pair (.sl (.int .i64)) (.pair (.sl (.int .i64)) (.sl (.int .i64)))))))) (.c (.val (.int .i64)) .e)) := fun x K => laws_szMap x.1 x.2.1 (fun (r0 : Int) => K [⟨(.int .i64), r0, true⟩])
theorem s_laws_szMap (k : Nat) : SoundF Tryd.prog glob 20 (ftab (.c (.val (.st (.pair (.int .i64) (.pair (.int .i64) (.pair (.sl (.int .i64)) (.pair (.sl (.int .i64)) (.sl (.int .i64)))))))) (.c (.val (.int .i64)) .e)) (F_laws_szMap k)) :=
  fun_ok (cx := cx_laws_szMap) (by kernel_rfl) ⟨types, (E_laws_szIntS_ok k).1, (E_laws_szIntS_ok k).2, mixed, rfl⟩ Tryd.func20 rfl (LoopsOK.nil) [] (by kernel_rfl) (fun x K => by kernel_rfl)
def E_laws_szMap (k : Nat) : Tbl := tcons 20 (ftab (.c (.val (.st (.pair (.int .i64) (.pair (.int .i64) (.pair (.sl (.int .i64)) (.pair (.sl (.int .i64)) (.sl (.int .i64)))))))) (.c (.val (.int .i64)) .e)) (F_laws_szMap k)) (E_laws_szIntS k)
theorem E_laws_szMap_ok (k : Nat) : SoundE Tryd.prog glob (E_laws_szMap k) ∧ NatE (E_laws_szMap k) := tab_cons (s_laws_szMap k) (E_laws_szIntS_ok k)
/-- laws.toIntS -/
def cx_laws_toIntS : Cx := { N := 22, G := glob, C := tys, ad := fun d => false, wk := false }
def sp_laws_toIntS_l0 : LSp where
  cv := []
  ts := [(0, .val (.sl (.int .i64))), (3, .own 7), (4, .val (.int .i64))]
  ids := [(7, .row (.int .i64))]
  tx := fun e => match e with | .exit i => bif Nat.beq i 0 then [3] else [] | .ret => [] | .normal => []
  ix := fun e => match e with | .exit i => bif Nat.beq i 0 then [7] else [] | .ret => [] | .normal => []
def F_laws_toIntS_l0 (k : Nat) : LArg sp_laws_toIntS_l0 := fun K n x y => laws_toIntS_l0 k (fun (y0 : List Int) => K (.exit 0) (mkSt [(3, .own 7 1)] [(7, some (.row (.int .i64) y0))])) n x.1 x.2.2.1 y.1
def LO_laws_toIntS_l0 (k : Nat) : LTbl := (lcons 3 (ltab sp_laws_toIntS_l0 (F_laws_toIntS_l0 k) k) lnil)
theorem lk_laws_toIntS_l0 (k : Nat) : LoopsOK Tryd.prog glob (E_laws_szMap k) cx_laws_toIntS (LO_laws_toIntS_l0 k) ((3, (loopB Tryd.f56 3)) :: []) :=
  LoopsOK.cons (LoopsOK.nil) (E_laws_szMap_ok k).2 (F := F_laws_toIntS_l0 k) k [] (by kernel_rfl) (by kernel_rfl) (fun K x y => rfl) (fun n x y K => by kernel_rfl)
def F_laws_toIntS (k : Nat) : FArg (.c (.val (.sl (.int .i64))) .e) := fun x K => laws_toIntS k x.1 (fun (r0 : List Int) => K [⟨(.sl (.int .i64)), r0, true⟩])
theorem s_laws_toIntS (k : Nat) : SoundF Tryd.prog glob 56 (ftab (.c (.val (.sl (.int .i64))) .e) (F_laws_toIntS k)) :=
  fun_ok (cx := cx_laws_toIntS) (by kernel_rfl) ⟨types, (E_laws_szMap_ok k).1, (E_laws_szMap_ok k).2, mixed, rfl⟩ Tryd.func56 rfl (lk_laws_toIntS_l0 k) [0] (by kernel_rfl) (fun x K => by kernel_rfl)
def E_laws_toIntS (k : Nat) : Tbl := tcons 56 (ftab (.c (.val (.sl (.int .i64))) .e) (F_laws_toIntS k)) (E_laws_szMap k)
theorem E_laws_toIntS_ok (k : Nat) : SoundE Tryd.prog glob (E_laws_toIntS k) ∧ NatE (E_laws_toIntS k) := tab_cons (s_laws_toIntS k) (E_laws_szMap_ok k)
/-- laws.toMap -/
def cx_laws_toMap : Cx := { N := 23, G := glob, C := tys, ad := fun d => Nat.beq d 12 || Nat.beq d 16 || Nat.beq d 20, wk := false }
def F_laws_toMap (k : Nat) : FArg (.c (.val (.st (.pair (.int .i64) (.pair (.int .i64) (.pair (.sl (.int .i64)) (.pair (.sl (.int .i64)) (.sl (.int .i64)))))))) .e) := fun x K => laws_toMap k x.1 (fun (r0 : Int × Int × (List Int) × (List Int) × List Int) => K [⟨(.st (.pair (.int .i64) (.pair (.int .i64) (.pair (.sl (.int .i64)) (.pair (.sl (.int .i64)) (.sl (.int .i64))))))), r0, true⟩])
theorem s_laws_toMap (k : Nat) : SoundF Tryd.prog glob 22 (ftab (.c (.val (.st (.pair (.int .i64) (.pair (.int .i64) (.pair (.sl (.int .i64)) (.pair (.sl (.int .i64)) (.sl (.int .i64)))))))) .e) (F_laws_toMap k)) :=
  fun_ok (cx := cx_laws_toMap) (by kernel_rfl) ⟨types, (E_laws_toIntS_ok k).1, (E_laws_toIntS_ok k).2, mixed, rfl⟩ Tryd.func22 rfl (LoopsOK.nil) [] (by kernel_rfl) (fun x K => by kernel_rfl)
def E_laws_toMap (k : Nat) : Tbl := tcons 22 (ftab (.c (.val (.st (.pair (.int .i64) (.pair (.int .i64) (.pair (.sl (.int .i64)) (.pair (.sl (.int .i64)) (.sl (.int .i64)))))))) .e) (F_laws_toMap k)) (E_laws_toIntS k)
theorem E_laws_toMap_ok (k : Nat) : SoundE Tryd.prog glob (E_laws_toMap k) ∧ NatE (E_laws_toMap k) := tab_cons (s_laws_toMap k) (E_laws_toIntS_ok k)
/-- spec.l1In -/
def cx_spec_l1In : Cx := { N := 15, G := glob, C := tys, ad := fun d => false, wk := false }
def F_spec_l1In (k : Nat) : FArg (.c (.val (.int .i64)) (.c (.val (.int .i64)) (.c (.val (.int .i64)) .e))) := fun x K => spec_l1In x.1 x.2.1 x.2.2.1 (fun (r0 : Bool) => K [⟨.bool, r0, true⟩])
theorem s_spec_l1In (k : Nat) : SoundF Tryd.prog glob 76 (ftab (.c (.val (.int .i64)) (.c (.val (.int .i64)) (.c (.val (.int .i64)) .e))) (F_spec_l1In k)) :=
  fun_ok (cx := cx_spec_l1In) (by kernel_rfl) ⟨types, (E_laws_toMap_ok k).1, (E_laws_toMap_ok k).2, mixed, rfl⟩ Tryd.func76 rfl (LoopsOK.nil) [] (by kernel_rfl) (fun x K => by kernel_rfl)
def E_spec_l1In (k : Nat) : Tbl := tcons 76 (ftab (.c (.val (.int .i64)) (.c (.val (.int .i64)) (.c (.val (.int .i64)) .e))) (F_spec_l1In k)) (E_laws_toMap k)
theorem E_spec_l1In_ok (k : Nat) : SoundE Tryd.prog glob (E_spec_l1In k) ∧ NatE (E_spec_l1In k) := tab_cons (s_spec_l1In k) (E_laws_toMap_ok k)
/-- spec.mSize -/
def cx_spec_mSize : Cx := { N := 8, G := glob, C := tys, ad := fun d => false, wk := false }
def F_spec_mSize (k : Nat) : FArg (.c (.val (.st (.pair (.int .i64) (.pair (.int .i64) (.pair (.sl (.int .i64)) (.pair (.sl (.int .i64)) (.sl (.int .i64)))))))) .e) := fun x K => spec_mSize x.1 (fun (r0 : Int) => K [⟨(.int .i64), r0, true⟩])
theorem s_spec_mSize (k : Nat) : SoundF Tryd.prog glob 89 (ftab (.c (.val (.st (.pair (.int .i64) (.pair (.int .i64) (.pair (.sl (.int .i64)) (.pair (.sl (.int .i64)) (.sl (.int .i64)))))))) .e) (F_spec_mSize k)) :=
  fun_ok (cx := cx_spec_mSize) (by kernel_rfl) ⟨types, (E_spec_l1In_ok k).1, (E_spec_l1In_ok k).2, mixed, rfl⟩ Tryd.func89 rfl (LoopsOK.nil) [] (by kernel_rfl) (fun x K => by kernel_rfl)
def E_spec_mSize (k : Nat) : Tbl := tcons 89 (ftab (.c (.val (.st (.pair (.int .i64) (.pair (.int .i64) (.pair (.sl (.int .i64)) (.pair (.sl (.int .i64)) (.sl (.int .i64)))))))) .e) (F_spec_mSize k)) (E_spec_l1In k)
theorem E_spec_mSize_ok (k : Nat) : SoundE Tryd.prog glob (E_spec_mSize k) ∧ NatE (E_spec_mSize k) := tab_cons (s_spec_mSize k) (E_spec_l1In_ok k)
/-- spec.l1All -/
def cx_spec_l1All : Cx := { N := 21, G := glob, C := tys, ad := fun d => false, wk := false }
def sp_spec_l1All_l0 : LSp where
  cv := []
  ts := [(1, .val (.int .i64)), (2, .val (.int .i64)), (9, .val (.sl (.int .i64))), (10, .val (.int .i64)), (11, .val (.int .i64))]
  ids := []
  tx := fun e => match e with | .exit i => bif Nat.beq i 0 then [] else [] | .ret => [6] | .normal => []
  ix := fun e => match e with | .exit i => bif Nat.beq i 0 then [] else [] | .ret => [] | .normal => []
def F_spec_l1All_l0 (k : Nat) : LArg sp_spec_l1All_l0 := fun K n x y => spec_l1All_l0 k (K (.exit 0) (mkSt [] [])) (fun (y0 : Bool) => K (.ret) (mkSt [(6, .val .bool y0)] [])) n x.1 x.2.1 x.2.2.1 x.2.2.2.1 x.2.2.2.2.1
def LO_spec_l1All_l0 (k : Nat) : LTbl := (lcons 2 (ltab sp_spec_l1All_l0 (F_spec_l1All_l0 k) k) lnil)
theorem lk_spec_l1All_l0 (k : Nat) : LoopsOK Tryd.prog glob (E_spec_mSize k) cx_spec_l1All (LO_spec_l1All_l0 k) ((2, (loopB Tryd.f90 2)) :: []) :=
  LoopsOK.cons (LoopsOK.nil) (E_spec_mSize_ok k).2 (F := F_spec_l1All_l0 k) k [] (by kernel_rfl) (by kernel_rfl) (fun K x y => rfl) (fun n x y K => by kernel_rfl)
def F_spec_l1All (k : Nat) : FArg (.c (.val (.sl (.int .i64))) (.c (.val (.int .i64)) (.c (.val (.int .i64)) .e))) := fun x K => spec_l1All k x.1 x.2.1 x.2.2.1 (fun (r0 : Bool) => K [⟨.bool, r0, true⟩])
theorem s_spec_l1All (k : Nat) : SoundF Tryd.prog glob 90 (ftab (.c (.val (.sl (.int .i64))) (.c (.val (.int .i64)) (.c (.val (.int .i64)) .e))) (F_spec_l1All k)) :=
  fun_ok (cx := cx_spec_l1All) (by kernel_rfl) ⟨types, (E_spec_mSize_ok k).1, (E_spec_mSize_ok k).2, mixed, rfl⟩ Tryd.func90 rfl (lk_spec_l1All_l0 k) [0] (by kernel_rfl) (fun x K => by kernel_rfl)
def E_spec_l1All (k : Nat) : Tbl := tcons 90 (ftab (.c (.val (.sl (.int .i64))) (.c (.val (.int .i64)) (.c (.val (.int .i64)) .e))) (F_spec_l1All k)) (E_spec_mSize k)
theorem E_spec_l1All_ok (k : Nat) : SoundE Tryd.prog glob (E_spec_l1All k) ∧ NatE (E_spec_l1All k) := tab_cons (s_spec_l1All k) (E_spec_mSize_ok k)
/-- spec.mHex -/
def cx_spec_mHex : Cx := { N := 14, G := glob, C := tys, ad := fun d => false, wk := false }
def F_spec_mHex (k : Nat) : FArg (.c (.val (.st (.pair (.int .i64) (.pair (.int .i64) (.pair (.sl (.int .i64)) (.pair (.sl (.int .i64)) (.sl (.int .i64)))))))) (.c (.val (.int .i64)) .e)) := fun x K => spec_mHex x.1 x.2.1 (fun (r0 : Int × Int) => K [⟨(.st (.pair (.int .i64) (.int .i64))), r0, true⟩])
theorem s_spec_mHex (k : Nat) : SoundF Tryd.prog glob 69 (ftab (.c (.val (.st (.pair (.int .i64) (.pair (.int .i64) (.pair (.sl (.int .i64)) (.pair (.sl (.int .i64)) (.sl (.int .i64)))))))) (.c (.val (.int .i64)) .e)) (F_spec_mHex k)) :=
  fun_ok (cx := cx_spec_mHex) (by kernel_rfl) ⟨types, (E_spec_l1All_ok k).1, (E_spec_l1All_ok k).2, mixed, rfl⟩ Tryd.func69 rfl (LoopsOK.nil) [] (by kernel_rfl) (fun x K => by kernel_rfl)
def E_spec_mHex (k : Nat) : Tbl := tcons 69 (ftab (.c (.val (.st (.pair (.int .i64) (.pair (.int .i64) (.pair (.sl (.int .i64)) (.pair (.sl (.int .i64)) (.sl (.int .i64)))))))) (.c (.val (.int .i64)) .e)) (F_spec_mHex k)) (E_spec_l1All k)
theorem E_spec_mHex_ok (k : Nat) : SoundE Tryd.prog glob (E_spec_mHex k) ∧ NatE (E_spec_mHex k) := tab_cons (s_spec_mHex k) (E_spec_l1All_ok k)
/-- spec.hStep -/
def cx_spec_hStep : Cx := { N := 20, G := glob, C := tys, ad := fun d => false, wk := false }
def F_spec_hStep (k : Nat) : FArg (.c (.val (.st (.pair (.int .i64) (.int .i64)))) (.c (.val (.int .i64)) .e)) := fun x K => spec_hStep x.1 x.2.1 (fun (r0 : Int × Int) => K [⟨(.st (.pair (.int .i64) (.int .i64))), r0, true⟩])
theorem s_spec_hStep (k : Nat) : SoundF Tryd.prog glob 92 (ftab (.c (.val (.st (.pair (.int .i64) (.int .i64)))) (.c (.val (.int .i64)) .e)) (F_spec_hStep k)) :=
  fun_ok (cx := cx_spec_hStep) (by kernel_rfl) ⟨types, (E_spec_mHex_ok k).1, (E_spec_mHex_ok k).2, mixed, rfl⟩ Tryd.func92 rfl (LoopsOK.nil) [] (by kernel_rfl) (fun x K => by kernel_rfl)
def E_spec_hStep (k : Nat) : Tbl := tcons 92 (ftab (.c (.val (.st (.pair (.int .i64) (.int .i64)))) (.c (.val (.int .i64)) .e)) (F_spec_hStep k)) (E_spec_mHex k)
theorem E_spec_hStep_ok (k : Nat) : SoundE Tryd.prog glob (E_spec_hStep k) ∧ NatE (E_spec_hStep k) := tab_cons (s_spec_hStep k) (E_spec_mHex_ok k)
/-- spec.mIndex -/
def cx_spec_mIndex : Cx := { N := 29, G := glob, C := tys, ad := fun d => false, wk := false }
def F_spec_mIndex (k : Nat) : FArg (.c (.val (.st (.pair (.int .i64) (.pair (.int .i64) (.pair (.sl (.int .i64)) (.pair (.sl (.int .i64)) (.sl (.int .i64)))))))) (.c (.val (.st (.pair (.int .i64) (.int .i64)))) .e)) := fun x K => spec_mIndex x.1 x.2.1 (fun (r0 : Int) => K [⟨(.int .i64), r0, true⟩])
theorem s_spec_mIndex (k : Nat) : SoundF Tryd.prog glob 66 (ftab (.c (.val (.st (.pair (.int .i64) (.pair (.int .i64) (.pair (.sl (.int .i64)) (.pair (.sl (.int .i64)) (.sl (.int .i64)))))))) (.c (.val (.st (.pair (.int .i64) (.int .i64)))) .e)) (F_spec_mIndex k)) :=
  fun_ok (cx := cx_spec_mIndex) (by kernel_rfl) ⟨types, (E_spec_hStep_ok k).1, (E_spec_hStep_ok k).2, mixed, rfl⟩ Tryd.func66 rfl (LoopsOK.nil) [] (by kernel_rfl) (fun x K => by kernel_rfl)
def E_spec_mIndex (k : Nat) : Tbl := tcons 66 (ftab (.c (.val (.st (.pair (.int .i64) (.pair (.int .i64) (.pair (.sl (.int .i64)) (.pair (.sl (.int .i64)) (.sl (.int .i64)))))))) (.c (.val (.st (.pair (.int .i64) (.int .i64)))) .e)) (F_spec_mIndex k)) (E_spec_hStep k)
theorem E_spec_mIndex_ok (k : Nat) : SoundE Tryd.prog glob (E_spec_mIndex k) ∧ NatE (E_spec_mIndex k) := tab_cons (s_spec_mIndex k) (E_spec_hStep_ok k)
/-- spec.mNext -/
def cx_spec_mNext : Cx := { N := 14, G := glob, C := tys, ad := fun d => false, wk := false }
def F_spec_mNext (k : Nat) : FArg (.c (.val (.st (.pair (.int .i64) (.pair (.int .i64) (.pair (.sl (.int .i64)) (.pair (.sl (.int .i64)) (.sl (.int .i64)))))))) (.c (.val (.int .i64)) (.c (.val (.int .i64)) .e))) := fun x K => spec_mNext x.1 x.2.1 x.2.2.1 (fun (r0 : Int) => K [⟨(.int .i64), r0, true⟩])
theorem s_spec_mNext (k : Nat) : SoundF Tryd.prog glob 61 (ftab (.c (.val (.st (.pair (.int .i64) (.pair (.int .i64) (.pair (.sl (.int .i64)) (.pair (.sl (.int .i64)) (.sl (.int .i64)))))))) (.c (.val (.int .i64)) (.c (.val (.int .i64)) .e))) (F_spec_mNext k)) :=
  fun_ok (cx := cx_spec_mNext) (by kernel_rfl) ⟨types, (E_spec_mIndex_ok k).1, (E_spec_mIndex_ok k).2, mixed, rfl⟩ Tryd.func61 rfl (LoopsOK.nil) [] (by kernel_rfl) (fun x K => by kernel_rfl)
def E_spec_mNext (k : Nat) : Tbl := tcons 61 (ftab (.c (.val (.st (.pair (.int .i64) (.pair (.int .i64) (.pair (.sl (.int .i64)) (.pair (.sl (.int .i64)) (.sl (.int .i64)))))))) (.c (.val (.int .i64)) (.c (.val (.int .i64)) .e))) (F_spec_mNext k)) (E_spec_mIndex k)
theorem E_spec_mNext_ok (k : Nat) : SoundE Tryd.prog glob (E_spec_mNext k) ∧ NatE (E_spec_mNext k) := tab_cons (s_spec_mNext k) (E_spec_mIndex_ok k)
/-- spec.l1Rising -/
def cx_spec_l1Rising : Cx := { N := 35, G := glob, C := tys, ad := fun d => false, wk := false }
def sp_spec_l1Rising_l0 : LSp where
  cv := []
  ts := [(0, .val (.sl (.int .i64))), (1, .val (.int .i64)), (2, .val (.int .i64)), (9, .val (.sl (.int .i64))), (10, .val (.int .i64)), (11, .val (.int .i64))]
  ids := []
  tx := fun e => match e with | .exit i => bif Nat.beq i 0 then [] else [] | .ret => [6] | .normal => []
  ix := fun e => match e with | .exit i => bif Nat.beq i 0 then [] else [] | .ret => [] | .normal => []
def F_spec_l1Rising_l0 (k : Nat) : LArg sp_spec_l1Rising_l0 := fun K n x y => spec_l1Rising_l0 k (K (.exit 0) (mkSt [] [])) (fun (y0 : Bool) => K (.ret) (mkSt [(6, .val .bool y0)] [])) n x.1 x.2.1 x.2.2.1 x.2.2.2.1 x.2.2.2.2.1 x.2.2.2.2.2.1
def LO_spec_l1Rising_l0 (k : Nat) : LTbl := (lcons 2 (ltab sp_spec_l1Rising_l0 (F_spec_l1Rising_l0 k) k) lnil)
theorem lk_spec_l1Rising_l0 (k : Nat) : LoopsOK Tryd.prog glob (E_spec_mNext k) cx_spec_l1Rising (LO_spec_l1Rising_l0 k) ((2, (loopB Tryd.f91 2)) :: []) :=
  LoopsOK.cons (LoopsOK.nil) (E_spec_mNext_ok k).2 (F := F_spec_l1Rising_l0 k) k [] (by kernel_rfl) (by kernel_rfl) (fun K x y => rfl) (fun n x y K => by kernel_rfl)
def F_spec_l1Rising (k : Nat) : FArg (.c (.val (.sl (.int .i64))) (.c (.val (.int .i64)) (.c (.val (.int .i64)) .e))) := fun x K => spec_l1Rising k x.1 x.2.1 x.2.2.1 (fun (r0 : Bool) => K [⟨.bool, r0, true⟩])
theorem s_spec_l1Rising (k : Nat) : SoundF Tryd.prog glob 91 (ftab (.c (.val (.sl (.int .i64))) (.c (.val (.int .i64)) (.c (.val (.int .i64)) .e))) (F_spec_l1Rising k)) :=
  fun_ok (cx := cx_spec_l1Rising) (by kernel_rfl) ⟨types, (E_spec_mNext_ok k).1, (E_spec_mNext_ok k).2, mixed, rfl⟩ Tryd.func91 rfl (lk_spec_l1Rising_l0 k) [0] (by kernel_rfl) (fun x K => by kernel_rfl)
def E_spec_l1Rising (k : Nat) : Tbl := tcons 91 (ftab (.c (.val (.sl (.int .i64))) (.c (.val (.int .i64)) (.c (.val (.int .i64)) .e))) (F_spec_l1Rising k)) (E_spec_mNext k)
theorem E_spec_l1Rising_ok (k : Nat) : SoundE Tryd.prog glob (E_spec_l1Rising k) ∧ NatE (E_spec_l1Rising k) := tab_cons (s_spec_l1Rising k) (E_spec_mNext_ok k)
/-- spec.mEdges -/
def cx_spec_mEdges : Cx := { N := 36, G := glob, C := tys, ad := fun d => false, wk := false }
def sp_spec_mEdges_l0 : LSp where
  cv := []
  ts := [(1, .val (.sl (.int .i64))), (2, .ptr 2), (7, .val (.sl (.int .i64))), (8, .val (.int .i64)), (9, .val (.int .i64))]
  ids := [(2, .box (.st (.pair (.int .i64) (.pair (.int .i64) (.pair (.sl (.int .i64)) (.pair (.sl (.int .i64)) (.sl (.int .i64))))))) (.val (.st (.pair (.int .i64) (.pair (.int .i64) (.pair (.sl (.int .i64)) (.pair (.sl (.int .i64)) (.sl (.int .i64)))))))))]
  tx := fun e => match e with | .exit i => bif Nat.beq i 0 then [1, 2] else [] | .ret => [4] | .normal => []
  ix := fun e => match e with | .exit i => bif Nat.beq i 0 then [2] else [] | .ret => [] | .normal => []
def F_spec_mEdges_l0 (k : Nat) : LArg sp_spec_mEdges_l0 := fun K n x y => spec_mEdges_l0 k (fun (y0 : List Int) (y1 : Int × Int × (List Int) × (List Int) × List Int) => K (.exit 0) (mkSt [(1, .val (.sl (.int .i64)) y0), (2, .ptr 2 1 [])] [(2, some (.box (.st (.pair (.int .i64) (.pair (.int .i64) (.pair (.sl (.int .i64)) (.pair (.sl (.int .i64)) (.sl (.int .i64))))))) (.val (.st (.pair (.int .i64) (.pair (.int .i64) (.pair (.sl (.int .i64)) (.pair (.sl (.int .i64)) (.sl (.int .i64))))))) y1)))])) (fun (y0 : Bool) => K (.ret) (mkSt [(4, .val .bool y0)] [])) n x.1 x.2.2.1 x.2.2.2.1 x.2.2.2.2.1 y.1
def LO_spec_mEdges_l0 (k : Nat) : LTbl := (lcons 2 (ltab sp_spec_mEdges_l0 (F_spec_mEdges_l0 k) k) lnil)
theorem lk_spec_mEdges_l0 (k : Nat) : LoopsOK Tryd.prog glob (E_spec_l1Rising k) cx_spec_mEdges (LO_spec_mEdges_l0 k) ((2, (loopB Tryd.f60 2)) :: []) :=
  LoopsOK.cons (LoopsOK.nil) (E_spec_l1Rising_ok k).2 (F := F_spec_mEdges_l0 k) k [] (by kernel_rfl) (by kernel_rfl) (fun K x y => rfl) (fun n x y K => by kernel_rfl)
def F_spec_mEdges (k : Nat) : FArg (.c (.val (.st (.pair (.int .i64) (.pair (.int .i64) (.pair (.sl (.int .i64)) (.pair (.sl (.int .i64)) (.sl (.int .i64)))))))) (.c (.val (.sl (.int .i64))) .e)) := fun x K => spec_mEdges k x.1 x.2.1 (fun (r0 : Bool) => K [⟨.bool, r0, true⟩])
theorem s_spec_mEdges (k : Nat) : SoundF Tryd.prog glob 60 (ftab (.c (.val (.st (.pair (.int .i64) (.pair (.int .i64) (.pair (.sl (.int .i64)) (.pair (.sl (.int .i64)) (.sl (.int .i64)))))))) (.c (.val (.sl (.int .i64))) .e)) (F_spec_mEdges k)) :=
  fun_ok (cx := cx_spec_mEdges) (by kernel_rfl) ⟨types, (E_spec_l1Rising_ok k).1, (E_spec_l1Rising_ok k).2, mixed, rfl⟩ Tryd.func60 rfl (lk_spec_mEdges_l0 k) [0] (by kernel_rfl) (fun x K => by kernel_rfl)
def E_spec_mEdges (k : Nat) : Tbl := tcons 60 (ftab (.c (.val (.st (.pair (.int .i64) (.pair (.int .i64) (.pair (.sl (.int .i64)) (.pair (.sl (.int .i64)) (.sl (.int .i64)))))))) (.c (.val (.sl (.int .i64))) .e)) (F_spec_mEdges k)) (E_spec_l1Rising k)
theorem E_spec_mEdges_ok (k : Nat) : SoundE Tryd.prog glob (E_spec_mEdges k) ∧ NatE (E_spec_mEdges k) := tab_cons (s_spec_mEdges k) (E_spec_l1Rising_ok k)
/-- spec.mGood -/
def cx_spec_mGood : Cx := { N := 36, G := glob, C := tys, ad := fun d => false, wk := false }
def F_spec_mGood (k : Nat) : FArg (.c (.val (.st (.pair (.int .i64) (.pair (.int .i64) (.pair (.sl (.int .i64)) (.pair (.sl (.int .i64)) (.sl (.int .i64)))))))) .e) := fun x K => spec_mGood k x.1 (fun (r0 : Bool) => K [⟨.bool, r0, true⟩])
theorem s_spec_mGood (k : Nat) : SoundF Tryd.prog glob 55 (ftab (.c (.val (.st (.pair (.int .i64) (.pair (.int .i64) (.pair (.sl (.int .i64)) (.pair (.sl (.int .i64)) (.sl (.int .i64)))))))) .e) (F_spec_mGood k)) :=
  fun_ok (cx := cx_spec_mGood) (by kernel_rfl) ⟨types, (E_spec_mEdges_ok k).1, (E_spec_mEdges_ok k).2, mixed, rfl⟩ Tryd.func55 rfl (LoopsOK.nil) [] (by kernel_rfl) (fun x K => by kernel_rfl)
def E_spec_mGood (k : Nat) : Tbl := tcons 55 (ftab (.c (.val (.st (.pair (.int .i64) (.pair (.int .i64) (.pair (.sl (.int .i64)) (.pair (.sl (.int .i64)) (.sl (.int .i64)))))))) .e) (F_spec_mGood k)) (E_spec_mEdges k)
theorem E_spec_mGood_ok (k : Nat) : SoundE Tryd.prog glob (E_spec_mGood k) ∧ NatE (E_spec_mGood k) := tab_cons (s_spec_mGood k) (E_spec_mEdges_ok k)
/-- spec.mOn -/
def cx_spec_mOn : Cx := { N := 14, G := glob, C := tys, ad := fun d => false, wk := false }
def F_spec_mOn (k : Nat) : FArg (.c (.val (.st (.pair (.int .i64) (.pair (.int .i64) (.pair (.sl (.int .i64)) (.pair (.sl (.int .i64)) (.sl (.int .i64)))))))) (.c (.val (.int .i64)) .e)) := fun x K => spec_mOn k x.1 x.2.1 (fun (r0 : Bool) => K [⟨.bool, r0, true⟩])
theorem s_spec_mOn (k : Nat) : SoundF Tryd.prog glob 68 (ftab (.c (.val (.st (.pair (.int .i64) (.pair (.int .i64) (.pair (.sl (.int .i64)) (.pair (.sl (.int .i64)) (.sl (.int .i64)))))))) (.c (.val (.int .i64)) .e)) (F_spec_mOn k)) :=
  fun_ok (cx := cx_spec_mOn) (by kernel_rfl) ⟨types, (E_spec_mGood_ok k).1, (E_spec_mGood_ok k).2, mixed, rfl⟩ Tryd.func68 rfl (LoopsOK.nil) [] (by kernel_rfl) (fun x K => by kernel_rfl)
def E_spec_mOn (k : Nat) : Tbl := tcons 68 (ftab (.c (.val (.st (.pair (.int .i64) (.pair (.int .i64) (.pair (.sl (.int .i64)) (.pair (.sl (.int .i64)) (.sl (.int .i64)))))))) (.c (.val (.int .i64)) .e)) (F_spec_mOn k)) (E_spec_mGood k)
theorem E_spec_mOn_ok (k : Nat) : SoundE Tryd.prog glob (E_spec_mOn k) ∧ NatE (E_spec_mOn k) := tab_cons (s_spec_mOn k) (E_spec_mGood_ok k)
/-- spec.l1Most -/
def cx_spec_l1Most : Cx := { N := 10, G := glob, C := tys, ad := fun d => false, wk := false }
def F_spec_l1Most (k : Nat) : FArg (.c (.val (.int .i64)) (.c (.val (.int .i64)) .e)) := fun x K => spec_l1Most x.1 x.2.1 (fun (r0 : Int) => K [⟨(.int .i64), r0, true⟩])
theorem s_spec_l1Most (k : Nat) : SoundF Tryd.prog glob 125 (ftab (.c (.val (.int .i64)) (.c (.val (.int .i64)) .e)) (F_spec_l1Most k)) :=
  fun_ok (cx := cx_spec_l1Most) (by kernel_rfl) ⟨types, (E_spec_mOn_ok k).1, (E_spec_mOn_ok k).2, mixed, rfl⟩ Tryd.func125 rfl (LoopsOK.nil) [] (by kernel_rfl) (fun x K => by kernel_rfl)
def E_spec_l1Most (k : Nat) : Tbl := tcons 125 (ftab (.c (.val (.int .i64)) (.c (.val (.int .i64)) .e)) (F_spec_l1Most k)) (E_spec_mOn k)
theorem E_spec_l1Most_ok (k : Nat) : SoundE Tryd.prog glob (E_spec_l1Most k) ∧ NatE (E_spec_l1Most k) := tab_cons (s_spec_l1Most k) (E_spec_mOn_ok k)
/-- spec.l1Abs -/
def cx_spec_l1Abs : Cx := { N := 7, G := glob, C := tys, ad := fun d => false, wk := false }
def F_spec_l1Abs (k : Nat) : FArg (.c (.val (.int .i64)) .e) := fun x K => spec_l1Abs x.1 (fun (r0 : Int) => K [⟨(.int .i64), r0, true⟩])
theorem s_spec_l1Abs (k : Nat) : SoundF Tryd.prog glob 111 (ftab (.c (.val (.int .i64)) .e) (F_spec_l1Abs k)) :=
  fun_ok (cx := cx_spec_l1Abs) (by kernel_rfl) ⟨types, (E_spec_l1Most_ok k).1, (E_spec_l1Most_ok k).2, mixed, rfl⟩ Tryd.func111 rfl (LoopsOK.nil) [] (by kernel_rfl) (fun x K => by kernel_rfl)
def E_spec_l1Abs (k : Nat) : Tbl := tcons 111 (ftab (.c (.val (.int .i64)) .e) (F_spec_l1Abs k)) (E_spec_l1Most k)
theorem E_spec_l1Abs_ok (k : Nat) : SoundE Tryd.prog glob (E_spec_l1Abs k) ∧ NatE (E_spec_l1Abs k) := tab_cons (s_spec_l1Abs k) (E_spec_l1Most_ok k)
/-- spec.hDistance -/
def cx_spec_hDistance : Cx := { N := 28, G := glob, C := tys, ad := fun d => false, wk := false }
def F_spec_hDistance (k : Nat) : FArg (.c (.val (.st (.pair (.int .i64) (.int .i64)))) (.c (.val (.st (.pair (.int .i64) (.int .i64)))) .e)) := fun x K => spec_hDistance x.1 x.2.1 (fun (r0 : Int) => K [⟨(.int .i64), r0, true⟩])
theorem s_spec_hDistance (k : Nat) : SoundF Tryd.prog glob 96 (ftab (.c (.val (.st (.pair (.int .i64) (.int .i64)))) (.c (.val (.st (.pair (.int .i64) (.int .i64)))) .e)) (F_spec_hDistance k)) :=
  fun_ok (cx := cx_spec_hDistance) (by kernel_rfl) ⟨types, (E_spec_l1Abs_ok k).1, (E_spec_l1Abs_ok k).2, mixed, rfl⟩ Tryd.func96 rfl (LoopsOK.nil) [] (by kernel_rfl) (fun x K => by kernel_rfl)
def E_spec_hDistance (k : Nat) : Tbl := tcons 96 (ftab (.c (.val (.st (.pair (.int .i64) (.int .i64)))) (.c (.val (.st (.pair (.int .i64) (.int .i64)))) .e)) (F_spec_hDistance k)) (E_spec_l1Abs k)
theorem E_spec_hDistance_ok (k : Nat) : SoundE Tryd.prog glob (E_spec_hDistance k) ∧ NatE (E_spec_hDistance k) := tab_cons (s_spec_hDistance k) (E_spec_l1Abs_ok k)
/-- spec.mNear -/
def cx_spec_mNear : Cx := { N := 29, G := glob, C := tys, ad := fun d => false, wk := false }
def sp_spec_mNear_l0 : LSp where
  cv := [(7, 2000007, (.int .i64))]
  ts := [(1, .val (.int .i64)), (2, .val (.int .i64)), (3, .ptr 3), (7, .own 2000007), (8, .val (.int .i64))]
  ids := [(3, .box (.st (.pair (.int .i64) (.pair (.int .i64) (.pair (.sl (.int .i64)) (.pair (.sl (.int .i64)) (.sl (.int .i64))))))) (.val (.st (.pair (.int .i64) (.pair (.int .i64) (.pair (.sl (.int .i64)) (.pair (.sl (.int .i64)) (.sl (.int .i64))))))))), (2000007, .row (.int .i64))]
  tx := fun e => match e with | .exit i => bif Nat.beq i 0 then [7] else [] | .ret => [] | .normal => []
  ix := fun e => match e with | .exit i => bif Nat.beq i 0 then [2000007] else [] | .ret => [] | .normal => []
def F_spec_mNear_l0 (k : Nat) : LArg sp_spec_mNear_l0 := fun K n x y => spec_mNear_l0 k (fun (y0 : List Int) => K (.exit 0) (mkSt [(7, .own 2000007 1)] [(2000007, some (.row (.int .i64) y0))])) n x.1 x.2.1 x.2.2.2.2.1 y.1 y.2.1
def LO_spec_mNear_l0 (k : Nat) : LTbl := (lcons 3 (ltab sp_spec_mNear_l0 (F_spec_mNear_l0 k) k) lnil)
theorem lk_spec_mNear_l0 (k : Nat) : LoopsOK Tryd.prog glob (E_spec_hDistance k) cx_spec_mNear (LO_spec_mNear_l0 k) ((3, (loopB Tryd.f77 3)) :: []) :=
  LoopsOK.cons (LoopsOK.nil) (E_spec_hDistance_ok k).2 (F := F_spec_mNear_l0 k) k [] (by kernel_rfl) (by kernel_rfl) (fun K x y => rfl) (fun n x y K => by kernel_rfl)
def F_spec_mNear (k : Nat) : FArg (.c (.val (.st (.pair (.int .i64) (.pair (.int .i64) (.pair (.sl (.int .i64)) (.pair (.sl (.int .i64)) (.sl (.int .i64)))))))) (.c (.val (.int .i64)) (.c (.val (.int .i64)) .e))) := fun x K => spec_mNear k x.1 x.2.1 x.2.2.1 (fun (r0 : List Int) => K [⟨(.sl (.int .i64)), r0, true⟩])
theorem s_spec_mNear (k : Nat) : SoundF Tryd.prog glob 77 (ftab (.c (.val (.st (.pair (.int .i64) (.pair (.int .i64) (.pair (.sl (.int .i64)) (.pair (.sl (.int .i64)) (.sl (.int .i64)))))))) (.c (.val (.int .i64)) (.c (.val (.int .i64)) .e))) (F_spec_mNear k)) :=
  fun_ok (cx := cx_spec_mNear) (by kernel_rfl) ⟨types, (E_spec_hDistance_ok k).1, (E_spec_hDistance_ok k).2, mixed, rfl⟩ Tryd.func77 rfl (lk_spec_mNear_l0 k) [0] (by kernel_rfl) (fun x K => by kernel_rfl)
def E_spec_mNear (k : Nat) : Tbl := tcons 77 (ftab (.c (.val (.st (.pair (.int .i64) (.pair (.int .i64) (.pair (.sl (.int .i64)) (.pair (.sl (.int .i64)) (.sl (.int .i64)))))))) (.c (.val (.int .i64)) (.c (.val (.int .i64)) .e))) (F_spec_mNear k)) (E_spec_hDistance k)
theorem E_spec_mNear_ok (k : Nat) : SoundE Tryd.prog glob (E_spec_mNear k) ∧ NatE (E_spec_mNear k) := tab_cons (s_spec_mNear k) (E_spec_hDistance_ok k)
/-- spec.NearOn -/
def cx_spec_NearOn : Cx := { N := 21, G := glob, C := tys, ad := fun d => false, wk := true }
def F_spec_NearOn (k : Nat) : FArg (.c (.val (.st (.pair (.int .i64) (.pair (.int .i64) (.pair (.sl (.int .i64)) (.pair (.sl (.int .i64)) (.sl (.int .i64)))))))) (.c (.val (.int .i64)) (.c (.val (.int .i64)) .e))) := fun x K => spec_NearOn k x.1 x.2.1 x.2.2.1 (fun (r0 : List Int) (r1 : Bool) => K [⟨(.sl (.int .i64)), r0, false⟩, ⟨.bool, r1, true⟩])
theorem s_spec_NearOn (k : Nat) : SoundF Tryd.prog glob 40 (ftab (.c (.val (.st (.pair (.int .i64) (.pair (.int .i64) (.pair (.sl (.int .i64)) (.pair (.sl (.int .i64)) (.sl (.int .i64)))))))) (.c (.val (.int .i64)) (.c (.val (.int .i64)) .e))) (F_spec_NearOn k)) :=
  fun_ok (cx := cx_spec_NearOn) (by kernel_rfl) ⟨types, (E_spec_mNear_ok k).1, (E_spec_mNear_ok k).2, mixed, rfl⟩ Tryd.func40 rfl (LoopsOK.nil) [] (by kernel_rfl) (fun x K => by kernel_rfl)
def E_spec_NearOn (k : Nat) : Tbl := tcons 40 (ftab (.c (.val (.st (.pair (.int .i64) (.pair (.int .i64) (.pair (.sl (.int .i64)) (.pair (.sl (.int .i64)) (.sl (.int .i64)))))))) (.c (.val (.int .i64)) (.c (.val (.int .i64)) .e))) (F_spec_NearOn k)) (E_spec_mNear k)
theorem E_spec_NearOn_ok (k : Nat) : SoundE Tryd.prog glob (E_spec_NearOn k) ∧ NatE (E_spec_NearOn k) := tab_cons (s_spec_NearOn k) (E_spec_mNear_ok k)
/-- impl.inRange -/
def cx_impl_inRange : Cx := { N := 15, G := glob, C := tys, ad := fun d => false, wk := false }
def F_impl_inRange (k : Nat) : FArg (.c (.val (.int .i64)) (.c (.val (.int .i64)) (.c (.val (.int .i64)) .e))) := fun x K => impl_inRange x.1 x.2.1 x.2.2.1 (fun (r0 : Bool) => K [⟨.bool, r0, true⟩])
theorem s_impl_inRange (k : Nat) : SoundF Tryd.prog glob 52 (ftab (.c (.val (.int .i64)) (.c (.val (.int .i64)) (.c (.val (.int .i64)) .e))) (F_impl_inRange k)) :=
  fun_ok (cx := cx_impl_inRange) (by kernel_rfl) ⟨types, (E_spec_NearOn_ok k).1, (E_spec_NearOn_ok k).2, mixed, rfl⟩ Tryd.func52 rfl (LoopsOK.nil) [] (by kernel_rfl) (fun x K => by kernel_rfl)
def E_impl_inRange (k : Nat) : Tbl := tcons 52 (ftab (.c (.val (.int .i64)) (.c (.val (.int .i64)) (.c (.val (.int .i64)) .e))) (F_impl_inRange k)) (E_spec_NearOn k)
theorem E_impl_inRange_ok (k : Nat) : SoundE Tryd.prog glob (E_impl_inRange k) ∧ NatE (E_impl_inRange k) := tab_cons (s_impl_inRange k) (E_spec_NearOn_ok k)
/-- impl.isIndex -/
def cx_impl_isIndex : Cx := { N := 9, G := glob, C := tys, ad := fun d => Nat.beq d 8, wk := false }
def F_impl_isIndex (k : Nat) : FArg (.c (.val (.int .i64)) (.c (.val (.int .i64)) .e)) := fun x K => impl_isIndex x.1 x.2.1 (fun (r0 : Bool) => K [⟨.bool, r0, true⟩])
theorem s_impl_isIndex (k : Nat) : SoundF Tryd.prog glob 57 (ftab (.c (.val (.int .i64)) (.c (.val (.int .i64)) .e)) (F_impl_isIndex k)) :=
  fun_ok (cx := cx_impl_isIndex) (by kernel_rfl) ⟨types, (E_impl_inRange_ok k).1, (E_impl_inRange_ok k).2, mixed, rfl⟩ Tryd.func57 rfl (LoopsOK.nil) [] (by kernel_rfl) (fun x K => by kernel_rfl)
def E_impl_isIndex (k : Nat) : Tbl := tcons 57 (ftab (.c (.val (.int .i64)) (.c (.val (.int .i64)) .e)) (F_impl_isIndex k)) (E_impl_inRange k)
theorem E_impl_isIndex_ok (k : Nat) : SoundE Tryd.prog glob (E_impl_isIndex k) ∧ NatE (E_impl_isIndex k) := tab_cons (s_impl_isIndex k) (E_impl_inRange_ok k)
/-- impl.increasing -/
def cx_impl_increasing : Cx := { N := 20, G := glob, C := tys, ad := fun d => false, wk := false }
def sp_impl_increasing_l0 : LSp where
  cv := []
  ts := [(0, .val (.sl (.int .i64))), (3, .val (.int .i64))]
  ids := []
  tx := fun e => match e with | .exit i => bif Nat.beq i 0 then [] else [] | .ret => [2] | .normal => []
  ix := fun e => match e with | .exit i => bif Nat.beq i 0 then [] else [] | .ret => [] | .normal => []
def F_impl_increasing_l0 (k : Nat) : LArg sp_impl_increasing_l0 := fun K n x y => impl_increasing_l0 k (K (.exit 0) (mkSt [] [])) (fun (y0 : Bool) => K (.ret) (mkSt [(2, .val .bool y0)] [])) n x.1 x.2.1
def LO_impl_increasing_l0 (k : Nat) : LTbl := (lcons 2 (ltab sp_impl_increasing_l0 (F_impl_increasing_l0 k) k) lnil)
theorem lk_impl_increasing_l0 (k : Nat) : LoopsOK Tryd.prog glob (E_impl_isIndex k) cx_impl_increasing (LO_impl_increasing_l0 k) ((2, (loopB Tryd.f58 2)) :: []) :=
  LoopsOK.cons (LoopsOK.nil) (E_impl_isIndex_ok k).2 (F := F_impl_increasing_l0 k) k [] (by kernel_rfl) (by kernel_rfl) (fun K x y => rfl) (fun n x y K => by kernel_rfl)
def F_impl_increasing (k : Nat) : FArg (.c (.val (.sl (.int .i64))) .e) := fun x K => impl_increasing k x.1 (fun (r0 : Bool) => K [⟨.bool, r0, true⟩])
theorem s_impl_increasing (k : Nat) : SoundF Tryd.prog glob 58 (ftab (.c (.val (.sl (.int .i64))) .e) (F_impl_increasing k)) :=
  fun_ok (cx := cx_impl_increasing) (by kernel_rfl) ⟨types, (E_impl_isIndex_ok k).1, (E_impl_isIndex_ok k).2, mixed, rfl⟩ Tryd.func58 rfl (lk_impl_increasing_l0 k) [0] (by kernel_rfl) (fun x K => by kernel_rfl)
def E_impl_increasing (k : Nat) : Tbl := tcons 58 (ftab (.c (.val (.sl (.int .i64))) .e) (F_impl_increasing k)) (E_impl_isIndex k)
theorem E_impl_increasing_ok (k : Nat) : SoundE Tryd.prog glob (E_impl_increasing k) ∧ NatE (E_impl_increasing k) := tab_cons (s_impl_increasing k) (E_impl_isIndex_ok k)
/-- impl.hexOf -/
def cx_impl_hexOf : Cx := { N := 14, G := glob, C := tys, ad := fun d => false, wk := false }
def F_impl_hexOf (k : Nat) : FArg (.c (.val (.st (.pair (.int .i64) (.pair (.int .i64) (.pair (.sl (.int .i64)) (.pair (.sl (.int .i64)) (.sl (.int .i64)))))))) (.c (.val (.int .i64)) .e)) := fun x K => impl_hexOf x.1 x.2.1 (fun (r0 : Int × Int) => K [⟨(.st (.pair (.int .i64) (.int .i64))), r0, true⟩])
theorem s_impl_hexOf (k : Nat) : SoundF Tryd.prog glob 70 (ftab (.c (.val (.st (.pair (.int .i64) (.pair (.int .i64) (.pair (.sl (.int .i64)) (.pair (.sl (.int .i64)) (.sl (.int .i64)))))))) (.c (.val (.int .i64)) .e)) (F_impl_hexOf k)) :=
  fun_ok (cx := cx_impl_hexOf) (by kernel_rfl) ⟨types, (E_impl_increasing_ok k).1, (E_impl_increasing_ok k).2, mixed, rfl⟩ Tryd.func70 rfl (LoopsOK.nil) [] (by kernel_rfl) (fun x K => by kernel_rfl)
def E_impl_hexOf (k : Nat) : Tbl := tcons 70 (ftab (.c (.val (.st (.pair (.int .i64) (.pair (.int .i64) (.pair (.sl (.int .i64)) (.pair (.sl (.int .i64)) (.sl (.int .i64)))))))) (.c (.val (.int .i64)) .e)) (F_impl_hexOf k)) (E_impl_increasing k)
theorem E_impl_hexOf_ok (k : Nat) : SoundE Tryd.prog glob (E_impl_hexOf k) ∧ NatE (E_impl_hexOf k) := tab_cons (s_impl_hexOf k) (E_impl_increasing_ok k)
/-- impl.stepBy -/
def cx_impl_stepBy : Cx := { N := 26, G := glob, C := tys, ad := fun d => false, wk := false }
def F_impl_stepBy (k : Nat) : FArg (.c (.val (.st (.pair (.int .i64) (.int .i64)))) (.c (.val (.int .i64)) (.c (.val (.int .i64)) .e))) := fun x K => impl_stepBy x.1 x.2.1 x.2.2.1 (fun (r0 : Int × Int) => K [⟨(.st (.pair (.int .i64) (.int .i64))), r0, true⟩])
theorem s_impl_stepBy (k : Nat) : SoundF Tryd.prog glob 93 (ftab (.c (.val (.st (.pair (.int .i64) (.int .i64)))) (.c (.val (.int .i64)) (.c (.val (.int .i64)) .e))) (F_impl_stepBy k)) :=
  fun_ok (cx := cx_impl_stepBy) (by kernel_rfl) ⟨types, (E_impl_hexOf_ok k).1, (E_impl_hexOf_ok k).2, mixed, rfl⟩ Tryd.func93 rfl (LoopsOK.nil) [] (by kernel_rfl) (fun x K => by kernel_rfl)
def E_impl_stepBy (k : Nat) : Tbl := tcons 93 (ftab (.c (.val (.st (.pair (.int .i64) (.int .i64)))) (.c (.val (.int .i64)) (.c (.val (.int .i64)) .e))) (F_impl_stepBy k)) (E_impl_hexOf k)
theorem E_impl_stepBy_ok (k : Nat) : SoundE Tryd.prog glob (E_impl_stepBy k) ∧ NatE (E_impl_stepBy k) := tab_cons (s_impl_stepBy k) (E_impl_hexOf_ok k)
/-- impl.indexOf -/
def cx_impl_indexOf : Cx := { N := 27, G := glob, C := tys, ad := fun d => Nat.beq d 9 || Nat.beq d 16, wk := false }
def F_impl_indexOf (k : Nat) : FArg (.c (.val (.st (.pair (.int .i64) (.pair (.int .i64) (.pair (.sl (.int .i64)) (.pair (.sl (.int .i64)) (.sl (.int .i64)))))))) (.c (.val (.st (.pair (.int .i64) (.int .i64)))) .e)) := fun x K => impl_indexOf x.1 x.2.1 (fun (r0 : Int) => K [⟨(.int .i64), r0, true⟩])
theorem s_impl_indexOf (k : Nat) : SoundF Tryd.prog glob 67 (ftab (.c (.val (.st (.pair (.int .i64) (.pair (.int .i64) (.pair (.sl (.int .i64)) (.pair (.sl (.int .i64)) (.sl (.int .i64)))))))) (.c (.val (.st (.pair (.int .i64) (.int .i64)))) .e)) (F_impl_indexOf k)) :=
  fun_ok (cx := cx_impl_indexOf) (by kernel_rfl) ⟨types, (E_impl_stepBy_ok k).1, (E_impl_stepBy_ok k).2, mixed, rfl⟩ Tryd.func67 rfl (LoopsOK.nil) [] (by kernel_rfl) (fun x K => by kernel_rfl)
def E_impl_indexOf (k : Nat) : Tbl := tcons 67 (ftab (.c (.val (.st (.pair (.int .i64) (.pair (.int .i64) (.pair (.sl (.int .i64)) (.pair (.sl (.int .i64)) (.sl (.int .i64)))))))) (.c (.val (.st (.pair (.int .i64) (.int .i64)))) .e)) (F_impl_indexOf k)) (E_impl_stepBy k)
theorem E_impl_indexOf_ok (k : Nat) : SoundE Tryd.prog glob (E_impl_indexOf k) ∧ NatE (E_impl_indexOf k) := tab_cons (s_impl_indexOf k) (E_impl_stepBy_ok k)
/-- impl.nextTo -/
def cx_impl_nextTo : Cx := { N := 14, G := glob, C := tys, ad := fun d => false, wk := false }
def F_impl_nextTo (k : Nat) : FArg (.c (.val (.st (.pair (.int .i64) (.pair (.int .i64) (.pair (.sl (.int .i64)) (.pair (.sl (.int .i64)) (.sl (.int .i64)))))))) (.c (.val (.int .i64)) (.c (.val (.int .i64)) .e))) := fun x K => impl_nextTo x.1 x.2.1 x.2.2.1 (fun (r0 : Int) => K [⟨(.int .i64), r0, true⟩])
theorem s_impl_nextTo (k : Nat) : SoundF Tryd.prog glob 62 (ftab (.c (.val (.st (.pair (.int .i64) (.pair (.int .i64) (.pair (.sl (.int .i64)) (.pair (.sl (.int .i64)) (.sl (.int .i64)))))))) (.c (.val (.int .i64)) (.c (.val (.int .i64)) .e))) (F_impl_nextTo k)) :=
  fun_ok (cx := cx_impl_nextTo) (by kernel_rfl) ⟨types, (E_impl_indexOf_ok k).1, (E_impl_indexOf_ok k).2, mixed, rfl⟩ Tryd.func62 rfl (LoopsOK.nil) [] (by kernel_rfl) (fun x K => by kernel_rfl)
def E_impl_nextTo (k : Nat) : Tbl := tcons 62 (ftab (.c (.val (.st (.pair (.int .i64) (.pair (.int .i64) (.pair (.sl (.int .i64)) (.pair (.sl (.int .i64)) (.sl (.int .i64)))))))) (.c (.val (.int .i64)) (.c (.val (.int .i64)) .e))) (F_impl_nextTo k)) (E_impl_indexOf k)
theorem E_impl_nextTo_ok (k : Nat) : SoundE Tryd.prog glob (E_impl_nextTo k) ∧ NatE (E_impl_nextTo k) := tab_cons (s_impl_nextTo k) (E_impl_indexOf_ok k)
/-- impl.isEdge -/
def cx_impl_isEdge : Cx := { N := 23, G := glob, C := tys, ad := fun d => Nat.beq d 13 || Nat.beq d 20, wk := false }
def F_impl_isEdge (k : Nat) : FArg (.c (.val (.st (.pair (.int .i64) (.pair (.int .i64) (.pair (.sl (.int .i64)) (.pair (.sl (.int .i64)) (.sl (.int .i64)))))))) (.c (.val (.int .i64)) .e)) := fun x K => impl_isEdge x.1 x.2.1 (fun (r0 : Bool) => K [⟨.bool, r0, true⟩])
theorem s_impl_isEdge (k : Nat) : SoundF Tryd.prog glob 59 (ftab (.c (.val (.st (.pair (.int .i64) (.pair (.int .i64) (.pair (.sl (.int .i64)) (.pair (.sl (.int .i64)) (.sl (.int .i64)))))))) (.c (.val (.int .i64)) .e)) (F_impl_isEdge k)) :=
  fun_ok (cx := cx_impl_isEdge) (by kernel_rfl) ⟨types, (E_impl_nextTo_ok k).1, (E_impl_nextTo_ok k).2, mixed, rfl⟩ Tryd.func59 rfl (LoopsOK.nil) [] (by kernel_rfl) (fun x K => by kernel_rfl)
def E_impl_isEdge (k : Nat) : Tbl := tcons 59 (ftab (.c (.val (.st (.pair (.int .i64) (.pair (.int .i64) (.pair (.sl (.int .i64)) (.pair (.sl (.int .i64)) (.sl (.int .i64)))))))) (.c (.val (.int .i64)) .e)) (F_impl_isEdge k)) (E_impl_nextTo k)
theorem E_impl_isEdge_ok (k : Nat) : SoundE Tryd.prog glob (E_impl_isEdge k) ∧ NatE (E_impl_isEdge k) := tab_cons (s_impl_isEdge k) (E_impl_nextTo_ok k)
/-- impl.IsMap -/
def cx_impl_IsMap : Cx := { N := 66, G := glob, C := tys, ad := fun d => Nat.beq d 11 || Nat.beq d 16 || Nat.beq d 38 || Nat.beq d 52 || Nat.beq d 62, wk := false }
def sp_impl_IsMap_l0 : LSp where
  cv := []
  ts := [(1, .ptr 1), (31, .val (.sl (.int .i64))), (32, .val (.int .i64)), (33, .val (.int .i64))]
  ids := [(1, .box (.st (.pair (.int .i64) (.pair (.int .i64) (.pair (.sl (.int .i64)) (.pair (.sl (.int .i64)) (.sl (.int .i64))))))) (.val (.st (.pair (.int .i64) (.pair (.int .i64) (.pair (.sl (.int .i64)) (.pair (.sl (.int .i64)) (.sl (.int .i64)))))))))]
  tx := fun e => match e with | .exit i => bif Nat.beq i 0 then [1] else [] | .ret => [2] | .normal => []
  ix := fun e => match e with | .exit i => bif Nat.beq i 0 then [1] else [] | .ret => [] | .normal => []
def F_impl_IsMap_l0 (k : Nat) : LArg sp_impl_IsMap_l0 := fun K n x y => impl_IsMap_l0 k (fun (y0 : Int × Int × (List Int) × (List Int) × List Int) => K (.exit 0) (mkSt [(1, .ptr 1 1 [])] [(1, some (.box (.st (.pair (.int .i64) (.pair (.int .i64) (.pair (.sl (.int .i64)) (.pair (.sl (.int .i64)) (.sl (.int .i64))))))) (.val (.st (.pair (.int .i64) (.pair (.int .i64) (.pair (.sl (.int .i64)) (.pair (.sl (.int .i64)) (.sl (.int .i64))))))) y0)))])) (fun (y0 : Bool) => K (.ret) (mkSt [(2, .val .bool y0)] [])) n x.2.1 x.2.2.1 x.2.2.2.1 y.1
def LO_impl_IsMap_l0 (k : Nat) : LTbl := (lcons 4 (ltab sp_impl_IsMap_l0 (F_impl_IsMap_l0 k) k) lnil)
theorem lk_impl_IsMap_l0 (k : Nat) : LoopsOK Tryd.prog glob (E_impl_isEdge k) cx_impl_IsMap (LO_impl_IsMap_l0 k) ((4, (loopB Tryd.f23 4)) :: []) :=
  LoopsOK.cons (LoopsOK.nil) (E_impl_isEdge_ok k).2 (F := F_impl_IsMap_l0 k) k [] (by kernel_rfl) (by kernel_rfl) (fun K x y => rfl) (fun n x y K => by kernel_rfl)
def sp_impl_IsMap_l1 : LSp where
  cv := []
  ts := [(1, .ptr 1), (45, .own 45), (46, .val (.int .i64)), (47, .val (.int .i64)), (54, .val (.sl (.int .i64))), (55, .val (.int .i64)), (56, .val (.int .i64))]
  ids := [(1, .box (.st (.pair (.int .i64) (.pair (.int .i64) (.pair (.sl (.int .i64)) (.pair (.sl (.int .i64)) (.sl (.int .i64))))))) (.val (.st (.pair (.int .i64) (.pair (.int .i64) (.pair (.sl (.int .i64)) (.pair (.sl (.int .i64)) (.sl (.int .i64))))))))), (45, .row (.sl (.int .i64)))]
  tx := fun e => match e with | .exit i => bif Nat.beq i 4 then [1, 45, 46, 47] else [] | .ret => [2] | .normal => []
  ix := fun e => match e with | .exit i => bif Nat.beq i 4 then [1, 45] else [] | .ret => [] | .normal => []
def F_impl_IsMap_l1 (k : Nat) : LArg sp_impl_IsMap_l1 := fun K n x y => impl_IsMap_l1 k (fun (y0 : Int) (y1 : Int) (y2 : Int × Int × (List Int) × (List Int) × List Int) (y3 : List (List Int)) => K (.exit 4) (mkSt [(1, .ptr 1 1 []), (45, .own 45 1), (46, .val (.int .i64) y0), (47, .val (.int .i64) y1)] [(1, some (.box (.st (.pair (.int .i64) (.pair (.int .i64) (.pair (.sl (.int .i64)) (.pair (.sl (.int .i64)) (.sl (.int .i64))))))) (.val (.st (.pair (.int .i64) (.pair (.int .i64) (.pair (.sl (.int .i64)) (.pair (.sl (.int .i64)) (.sl (.int .i64))))))) y2))), (45, some (.row (.sl (.int .i64)) y3))])) (fun (y0 : Bool) => K (.ret) (mkSt [(2, .val .bool y0)] [])) n x.2.2.1 x.2.2.2.1 x.2.2.2.2.1 x.2.2.2.2.2.1 x.2.2.2.2.2.2.1 y.1 y.2.1
def LO_impl_IsMap_l1 (k : Nat) : LTbl := (lcons 15 (ltab sp_impl_IsMap_l1 (F_impl_IsMap_l1 k) k) (LO_impl_IsMap_l0 k))
theorem lk_impl_IsMap_l1 (k : Nat) : LoopsOK Tryd.prog glob (E_impl_isEdge k) cx_impl_IsMap (LO_impl_IsMap_l1 k) ((15, (loopB Tryd.f23 15)) :: ((4, (loopB Tryd.f23 4)) :: [])) :=
  LoopsOK.cons (lk_impl_IsMap_l0 k) (E_impl_isEdge_ok k).2 (F := F_impl_IsMap_l1 k) k [] (by kernel_rfl) (by kernel_rfl) (fun K x y => rfl) (fun n x y K => by kernel_rfl)
def sp_impl_IsMap_l2 : LSp where
  cv := []
  ts := [(1, .ptr 1), (45, .own 45), (46, .val (.int .i64)), (47, .val (.int .i64))]
  ids := [(1, .box (.st (.pair (.int .i64) (.pair (.int .i64) (.pair (.sl (.int .i64)) (.pair (.sl (.int .i64)) (.sl (.int .i64))))))) (.val (.st (.pair (.int .i64) (.pair (.int .i64) (.pair (.sl (.int .i64)) (.pair (.sl (.int .i64)) (.sl (.int .i64))))))))), (45, .row (.sl (.int .i64)))]
  tx := fun e => match e with | .exit i => bif Nat.beq i 2 then [] else [] | .ret => [2] | .normal => []
  ix := fun e => match e with | .exit i => bif Nat.beq i 2 then [] else [] | .ret => [] | .normal => []
def F_impl_IsMap_l2 (k : Nat) : LArg sp_impl_IsMap_l2 := fun K n x y => impl_IsMap_l2 k (K (.exit 2) (mkSt [] [])) (fun (y0 : Bool) => K (.ret) (mkSt [(2, .val .bool y0)] [])) n x.2.2.1 x.2.2.2.1 y.1 y.2.1
def LO_impl_IsMap_l2 (k : Nat) : LTbl := (lcons 10 (ltab sp_impl_IsMap_l2 (F_impl_IsMap_l2 k) k) (LO_impl_IsMap_l1 k))
theorem lk_impl_IsMap_l2 (k : Nat) : LoopsOK Tryd.prog glob (E_impl_isEdge k) cx_impl_IsMap (LO_impl_IsMap_l2 k) ((10, (loopB Tryd.f23 10)) :: ((15, (loopB Tryd.f23 15)) :: ((4, (loopB Tryd.f23 4)) :: []))) :=
  LoopsOK.cons (lk_impl_IsMap_l1 k) (E_impl_isEdge_ok k).2 (F := F_impl_IsMap_l2 k) k [0] (by kernel_rfl) (by kernel_rfl) (fun K x y => rfl) (fun n x y K => by kernel_rfl)
def F_impl_IsMap (k : Nat) : FArg (.c (.val (.st (.pair (.int .i64) (.pair (.int .i64) (.pair (.sl (.int .i64)) (.pair (.sl (.int .i64)) (.sl (.int .i64)))))))) .e) := fun x K => impl_IsMap k x.1 (fun (r0 : Bool) => K [⟨.bool, r0, true⟩])
theorem s_impl_IsMap (k : Nat) : SoundF Tryd.prog glob 23 (ftab (.c (.val (.st (.pair (.int .i64) (.pair (.int .i64) (.pair (.sl (.int .i64)) (.pair (.sl (.int .i64)) (.sl (.int .i64)))))))) .e) (F_impl_IsMap k)) :=
  fun_ok (cx := cx_impl_IsMap) (by kernel_rfl) ⟨types, (E_impl_isEdge_ok k).1, (E_impl_isEdge_ok k).2, mixed, rfl⟩ Tryd.func23 rfl (lk_impl_IsMap_l2 k) [2, 0] (by kernel_rfl) (fun x K => by kernel_rfl)
def E_impl_IsMap (k : Nat) : Tbl := tcons 23 (ftab (.c (.val (.st (.pair (.int .i64) (.pair (.int .i64) (.pair (.sl (.int .i64)) (.pair (.sl (.int .i64)) (.sl (.int .i64)))))))) .e) (F_impl_IsMap k)) (E_impl_isEdge k)
theorem E_impl_IsMap_ok (k : Nat) : SoundE Tryd.prog glob (E_impl_IsMap k) ∧ NatE (E_impl_IsMap k) := tab_cons (s_impl_IsMap k) (E_impl_isEdge_ok k)
/-- impl.isPlace -/
def cx_impl_isPlace : Cx := { N := 16, G := glob, C := tys, ad := fun d => Nat.beq d 6 || Nat.beq d 14, wk := false }
def F_impl_isPlace (k : Nat) : FArg (.c (.val (.st (.pair (.int .i64) (.pair (.int .i64) (.pair (.sl (.int .i64)) (.pair (.sl (.int .i64)) (.sl (.int .i64)))))))) (.c (.val (.int .i64)) .e)) := fun x K => impl_isPlace k x.1 x.2.1 (fun (r0 : Bool) => K [⟨.bool, r0, true⟩])
theorem s_impl_isPlace (k : Nat) : SoundF Tryd.prog glob 64 (ftab (.c (.val (.st (.pair (.int .i64) (.pair (.int .i64) (.pair (.sl (.int .i64)) (.pair (.sl (.int .i64)) (.sl (.int .i64)))))))) (.c (.val (.int .i64)) .e)) (F_impl_isPlace k)) :=
  fun_ok (cx := cx_impl_isPlace) (by kernel_rfl) ⟨types, (E_impl_IsMap_ok k).1, (E_impl_IsMap_ok k).2, mixed, rfl⟩ Tryd.func64 rfl (LoopsOK.nil) [] (by kernel_rfl) (fun x K => by kernel_rfl)
def E_impl_isPlace (k : Nat) : Tbl := tcons 64 (ftab (.c (.val (.st (.pair (.int .i64) (.pair (.int .i64) (.pair (.sl (.int .i64)) (.pair (.sl (.int .i64)) (.sl (.int .i64)))))))) (.c (.val (.int .i64)) .e)) (F_impl_isPlace k)) (E_impl_IsMap k)
theorem E_impl_isPlace_ok (k : Nat) : SoundE Tryd.prog glob (E_impl_isPlace k) ∧ NatE (E_impl_isPlace k) := tab_cons (s_impl_isPlace k) (E_impl_IsMap_ok k)
/-- impl.absOf -/
def cx_impl_absOf : Cx := { N := 8, G := glob, C := tys, ad := fun d => false, wk := false }
def F_impl_absOf (k : Nat) : FArg (.c (.val (.int .i64)) .e) := fun x K => impl_absOf x.1 (fun (r0 : Int) => K [⟨(.int .i64), r0, true⟩])
theorem s_impl_absOf (k : Nat) : SoundF Tryd.prog glob 97 (ftab (.c (.val (.int .i64)) .e) (F_impl_absOf k)) :=
  fun_ok (cx := cx_impl_absOf) (by kernel_rfl) ⟨types, (E_impl_isPlace_ok k).1, (E_impl_isPlace_ok k).2, mixed, rfl⟩ Tryd.func97 rfl (LoopsOK.nil) [] (by kernel_rfl) (fun x K => by kernel_rfl)
def E_impl_absOf (k : Nat) : Tbl := tcons 97 (ftab (.c (.val (.int .i64)) .e) (F_impl_absOf k)) (E_impl_isPlace k)
theorem E_impl_absOf_ok (k : Nat) : SoundE Tryd.prog glob (E_impl_absOf k) ∧ NatE (E_impl_absOf k) := tab_cons (s_impl_absOf k) (E_impl_isPlace_ok k)
/-- impl.distance -/
def cx_impl_distance : Cx := { N := 28, G := glob, C := tys, ad := fun d => Nat.beq d 18 || Nat.beq d 20 || Nat.beq d 25, wk := false }
def F_impl_distance (k : Nat) : FArg (.c (.val (.st (.pair (.int .i64) (.int .i64)))) (.c (.val (.st (.pair (.int .i64) (.int .i64)))) .e)) := fun x K => impl_distance x.1 x.2.1 (fun (r0 : Int) => K [⟨(.int .i64), r0, true⟩])
theorem s_impl_distance (k : Nat) : SoundF Tryd.prog glob 78 (ftab (.c (.val (.st (.pair (.int .i64) (.int .i64)))) (.c (.val (.st (.pair (.int .i64) (.int .i64)))) .e)) (F_impl_distance k)) :=
  fun_ok (cx := cx_impl_distance) (by kernel_rfl) ⟨types, (E_impl_absOf_ok k).1, (E_impl_absOf_ok k).2, mixed, rfl⟩ Tryd.func78 rfl (LoopsOK.nil) [] (by kernel_rfl) (fun x K => by kernel_rfl)
def E_impl_distance (k : Nat) : Tbl := tcons 78 (ftab (.c (.val (.st (.pair (.int .i64) (.int .i64)))) (.c (.val (.st (.pair (.int .i64) (.int .i64)))) .e)) (F_impl_distance k)) (E_impl_absOf k)
theorem E_impl_distance_ok (k : Nat) : SoundE Tryd.prog glob (E_impl_distance k) ∧ NatE (E_impl_distance k) := tab_cons (s_impl_distance k) (E_impl_absOf_ok k)
/-- impl.NearOn -/
def cx_impl_NearOn : Cx := { N := 41, G := glob, C := tys, ad := fun d => Nat.beq d 12 || Nat.beq d 16, wk := false }
def sp_impl_NearOn_l0 : LSp where
  cv := []
  ts := [(1, .val (.int .i64)), (2, .val (.int .i64)), (3, .ptr 3), (8, .own 19), (22, .val (.int .i64)), (23, .val (.int .i64))]
  ids := [(3, .box (.st (.pair (.int .i64) (.pair (.int .i64) (.pair (.sl (.int .i64)) (.pair (.sl (.int .i64)) (.sl (.int .i64))))))) (.val (.st (.pair (.int .i64) (.pair (.int .i64) (.pair (.sl (.int .i64)) (.pair (.sl (.int .i64)) (.sl (.int .i64))))))))), (19, .row (.int .i64))]
  tx := fun e => match e with | .exit i => bif Nat.beq i 0 then [8] else [] | .ret => [] | .normal => []
  ix := fun e => match e with | .exit i => bif Nat.beq i 0 then [19] else [] | .ret => [] | .normal => []
def F_impl_NearOn_l0 (k : Nat) : LArg sp_impl_NearOn_l0 := fun K n x y => impl_NearOn_l0 k (fun (y0 : List Int) => K (.exit 0) (mkSt [(8, .own 19 1)] [(19, some (.row (.int .i64) y0))])) n x.1 x.2.1 x.2.2.2.2.1 x.2.2.2.2.2.1 y.1 y.2.1
def LO_impl_NearOn_l0 (k : Nat) : LTbl := (lcons 5 (ltab sp_impl_NearOn_l0 (F_impl_NearOn_l0 k) k) lnil)
theorem lk_impl_NearOn_l0 (k : Nat) : LoopsOK Tryd.prog glob (E_impl_distance k) cx_impl_NearOn (LO_impl_NearOn_l0 k) ((5, (loopB Tryd.f41 5)) :: []) :=
  LoopsOK.cons (LoopsOK.nil) (E_impl_distance_ok k).2 (F := F_impl_NearOn_l0 k) k [] (by kernel_rfl) (by kernel_rfl) (fun K x y => rfl) (fun n x y K => by kernel_rfl)
def F_impl_NearOn (k : Nat) : FArg (.c (.val (.st (.pair (.int .i64) (.pair (.int .i64) (.pair (.sl (.int .i64)) (.pair (.sl (.int .i64)) (.sl (.int .i64)))))))) (.c (.val (.int .i64)) (.c (.val (.int .i64)) .e))) := fun x K => impl_NearOn k x.1 x.2.1 x.2.2.1 (fun (r0 : List Int) (r1 : Bool) => K [⟨(.sl (.int .i64)), r0, true⟩, ⟨.bool, r1, true⟩])
theorem s_impl_NearOn (k : Nat) : SoundF Tryd.prog glob 41 (ftab (.c (.val (.st (.pair (.int .i64) (.pair (.int .i64) (.pair (.sl (.int .i64)) (.pair (.sl (.int .i64)) (.sl (.int .i64)))))))) (.c (.val (.int .i64)) (.c (.val (.int .i64)) .e))) (F_impl_NearOn k)) :=
  fun_ok (cx := cx_impl_NearOn) (by kernel_rfl) ⟨types, (E_impl_distance_ok k).1, (E_impl_distance_ok k).2, mixed, rfl⟩ Tryd.func41 rfl (lk_impl_NearOn_l0 k) [0] (by kernel_rfl) (fun x K => by kernel_rfl)
def E_impl_NearOn (k : Nat) : Tbl := tcons 41 (ftab (.c (.val (.st (.pair (.int .i64) (.pair (.int .i64) (.pair (.sl (.int .i64)) (.pair (.sl (.int .i64)) (.sl (.int .i64)))))))) (.c (.val (.int .i64)) (.c (.val (.int .i64)) .e))) (F_impl_NearOn k)) (E_impl_distance k)
theorem E_impl_NearOn_ok (k : Nat) : SoundE Tryd.prog glob (E_impl_NearOn k) ∧ NatE (E_impl_NearOn k) := tab_cons (s_impl_NearOn k) (E_impl_distance_ok k)
/-- laws.eqIntS -/
def cx_laws_eqIntS : Cx := { N := 26, G := glob, C := tys, ad := fun d => false, wk := false }
def sp_laws_eqIntS_l0 : LSp where
  cv := []
  ts := [(0, .val (.sl (.int .i64))), (1, .val (.sl (.int .i64))), (5, .val (.int .i64))]
  ids := []
  tx := fun e => match e with | .exit i => bif Nat.beq i 0 then [] else [] | .ret => [4] | .normal => []
  ix := fun e => match e with | .exit i => bif Nat.beq i 0 then [] else [] | .ret => [] | .normal => []
def F_laws_eqIntS_l0 (k : Nat) : LArg sp_laws_eqIntS_l0 := fun K n x y => laws_eqIntS_l0 k (K (.exit 0) (mkSt [] [])) (fun (y0 : Bool) => K (.ret) (mkSt [(4, .val .bool y0)] [])) n x.1 x.2.1 x.2.2.1
def LO_laws_eqIntS_l0 (k : Nat) : LTbl := (lcons 4 (ltab sp_laws_eqIntS_l0 (F_laws_eqIntS_l0 k) k) lnil)
theorem lk_laws_eqIntS_l0 (k : Nat) : LoopsOK Tryd.prog glob (E_impl_NearOn k) cx_laws_eqIntS (LO_laws_eqIntS_l0 k) ((4, (loopB Tryd.f42 4)) :: []) :=
  LoopsOK.cons (LoopsOK.nil) (E_impl_NearOn_ok k).2 (F := F_laws_eqIntS_l0 k) k [] (by kernel_rfl) (by kernel_rfl) (fun K x y => rfl) (fun n x y K => by kernel_rfl)
def F_laws_eqIntS (k : Nat) : FArg (.c (.val (.sl (.int .i64))) (.c (.val (.sl (.int .i64))) .e)) := fun x K => laws_eqIntS k x.1 x.2.1 (fun (r0 : Bool) => K [⟨.bool, r0, true⟩])
theorem s_laws_eqIntS (k : Nat) : SoundF Tryd.prog glob 42 (ftab (.c (.val (.sl (.int .i64))) (.c (.val (.sl (.int .i64))) .e)) (F_laws_eqIntS k)) :=
  fun_ok (cx := cx_laws_eqIntS) (by kernel_rfl) ⟨types, (E_impl_NearOn_ok k).1, (E_impl_NearOn_ok k).2, mixed, rfl⟩ Tryd.func42 rfl (lk_laws_eqIntS_l0 k) [0] (by kernel_rfl) (fun x K => by kernel_rfl)
def E_laws_eqIntS (k : Nat) : Tbl := tcons 42 (ftab (.c (.val (.sl (.int .i64))) (.c (.val (.sl (.int .i64))) .e)) (F_laws_eqIntS k)) (E_impl_NearOn k)
theorem E_laws_eqIntS_ok (k : Nat) : SoundE Tryd.prog glob (E_laws_eqIntS k) ∧ NatE (E_laws_eqIntS k) := tab_cons (s_laws_eqIntS k) (E_impl_NearOn_ok k)
/-- laws.eqMap -/
def cx_laws_eqMap : Cx := { N := 33, G := glob, C := tys, ad := fun d => false, wk := false }
def F_laws_eqMap (k : Nat) : FArg (.c (.val (.st (.pair (.int .i64) (.pair (.int .i64) (.pair (.sl (.int .i64)) (.pair (.sl (.int .i64)) (.sl (.int .i64)))))))) (.c (.val (.st (.pair (.int .i64) (.pair (.int .i64) (.pair (.sl (.int .i64)) (.pair (.sl (.int .i64)) (.sl (.int .i64)))))))) .e)) := fun x K => laws_eqMap k x.1 x.2.1 (fun (r0 : Bool) => K [⟨.bool, r0, true⟩])
theorem s_laws_eqMap (k : Nat) : SoundF Tryd.prog glob 17 (ftab (.c (.val (.st (.pair (.int .i64) (.pair (.int .i64) (.pair (.sl (.int .i64)) (.pair (.sl (.int .i64)) (.sl (.int .i64)))))))) (.c (.val (.st (.pair (.int .i64) (.pair (.int .i64) (.pair (.sl (.int .i64)) (.pair (.sl (.int .i64)) (.sl (.int .i64)))))))) .e)) (F_laws_eqMap k)) :=
  fun_ok (cx := cx_laws_eqMap) (by kernel_rfl) ⟨types, (E_laws_eqIntS_ok k).1, (E_laws_eqIntS_ok k).2, mixed, rfl⟩ Tryd.func17 rfl (LoopsOK.nil) [] (by kernel_rfl) (fun x K => by kernel_rfl)
def E_laws_eqMap (k : Nat) : Tbl := tcons 17 (ftab (.c (.val (.st (.pair (.int .i64) (.pair (.int .i64) (.pair (.sl (.int .i64)) (.pair (.sl (.int .i64)) (.sl (.int .i64)))))))) (.c (.val (.st (.pair (.int .i64) (.pair (.int .i64) (.pair (.sl (.int .i64)) (.pair (.sl (.int .i64)) (.sl (.int .i64)))))))) .e)) (F_laws_eqMap k)) (E_laws_eqIntS k)
theorem E_laws_eqMap_ok (k : Nat) : SoundE Tryd.prog glob (E_laws_eqMap k) ∧ NatE (E_laws_eqMap k) := tab_cons (s_laws_eqMap k) (E_laws_eqIntS_ok k)
/-- laws.markIntS -/
def cx_laws_markIntS_in : Cx := { N := 19, G := glob, C := tys, ad := fun d => false, wk := true }
def sp_laws_markIntS_in_l0 : LSp where
  cv := []
  ts := [(0, .own 3000000), (1, .val (.int .i64)), (5, .val (.int .i64))]
  ids := [(3000000, .row (.int .i64))]
  tx := fun e => match e with | .exit i => bif Nat.beq i 0 then [1] else [] | .ret => [] | .normal => []
  ix := fun e => match e with | .exit i => bif Nat.beq i 0 then [3000000] else [] | .ret => [] | .normal => []
def F_laws_markIntS_in_l0 (k : Nat) : LArg sp_laws_markIntS_in_l0 := fun K n x y => laws_markIntS_in_l0 k (fun (y0 : Int) (y1 : List Int) => K (.exit 0) (mkSt [(1, .val (.int .i64) y0)] [(3000000, some (.row (.int .i64) y1))])) n x.2.1 x.2.2.1 y.1
def LO_laws_markIntS_in_l0 (k : Nat) : LTbl := (lcons 2 (ltab sp_laws_markIntS_in_l0 (F_laws_markIntS_in_l0 k) k) lnil)
theorem lk_laws_markIntS_in_l0 (k : Nat) : LoopsOK Tryd.prog glob (E_laws_eqMap k) cx_laws_markIntS_in (LO_laws_markIntS_in_l0 k) ((2, (loopB Tryd.f43 2)) :: []) :=
  LoopsOK.cons (LoopsOK.nil) (E_laws_eqMap_ok k).2 (F := F_laws_markIntS_in_l0 k) k [] (by kernel_rfl) (by kernel_rfl) (fun K x y => rfl) (fun n x y K => by kernel_rfl)
def F_laws_markIntS_in (k : Nat) : FArg (.c (.val (.sl (.int .i64))) (.c (.val (.int .i64)) .e)) := fun x K => laws_markIntS_in k x.1 x.2.1 (fun (r0 : List Int) (r1 : Int) => K [⟨(.sl (.int .i64)), r0, false⟩, ⟨(.int .i64), r1, true⟩])
theorem s_laws_markIntS_in (k : Nat) : SoundI Tryd.prog glob 43 1 (ftab (.c (.val (.sl (.int .i64))) (.c (.val (.int .i64)) .e)) (F_laws_markIntS_in k)) :=
  funI_ok (m := 1) (cx := cx_laws_markIntS_in) (by kernel_rfl) ⟨types, (E_laws_eqMap_ok k).1, (E_laws_eqMap_ok k).2, mixed, rfl⟩ Tryd.func43 rfl (lk_laws_markIntS_in_l0 k) [0] (by kernel_rfl) (fun x K => by kernel_rfl)
def E_laws_markIntS_in (k : Nat) : Tbl := tcons (43 + 1000000 * 1) (ftab (.c (.val (.sl (.int .i64))) (.c (.val (.int .i64)) .e)) (F_laws_markIntS_in k)) (E_laws_eqMap k)
theorem E_laws_markIntS_in_ok (k : Nat) : SoundE Tryd.prog glob (E_laws_markIntS_in k) ∧ NatE (E_laws_markIntS_in k) := tab_consI (by decide) (s_laws_markIntS_in k) (E_laws_eqMap_ok k)
/-- laws.markMap -/
def cx_laws_markMap_in : Cx := { N := 18, G := glob, C := tys, ad := fun d => false, wk := true, ip := fun d => bif Nat.beq d 43 then 1 else 0 }
def F_laws_markMap_in (k : Nat) : FArg (.c (.val (.st (.pair (.int .i64) (.pair (.int .i64) (.pair (.sl (.int .i64)) (.pair (.sl (.int .i64)) (.sl (.int .i64)))))))) (.c (.val (.int .i64)) .e)) := fun x K => laws_markMap_in k x.1 x.2.1 (fun (r0 : Int × Int × (List Int) × (List Int) × List Int) (r1 : Int) => K [⟨(.st (.pair (.int .i64) (.pair (.int .i64) (.pair (.sl (.int .i64)) (.pair (.sl (.int .i64)) (.sl (.int .i64))))))), r0, false⟩, ⟨(.int .i64), r1, true⟩])
theorem s_laws_markMap_in (k : Nat) : SoundI Tryd.prog glob 18 1 (ftab (.c (.val (.st (.pair (.int .i64) (.pair (.int .i64) (.pair (.sl (.int .i64)) (.pair (.sl (.int .i64)) (.sl (.int .i64)))))))) (.c (.val (.int .i64)) .e)) (F_laws_markMap_in k)) :=
  funI_ok (m := 1) (cx := cx_laws_markMap_in) (by kernel_rfl) ⟨types, (E_laws_markIntS_in_ok k).1, (E_laws_markIntS_in_ok k).2, mixed, rfl⟩ Tryd.func18 rfl (LoopsOK.nil) [] (by kernel_rfl) (fun x K => by kernel_rfl)
def E_laws_markMap_in (k : Nat) : Tbl := tcons (18 + 1000000 * 1) (ftab (.c (.val (.st (.pair (.int .i64) (.pair (.int .i64) (.pair (.sl (.int .i64)) (.pair (.sl (.int .i64)) (.sl (.int .i64)))))))) (.c (.val (.int .i64)) .e)) (F_laws_markMap_in k)) (E_laws_markIntS_in k)
theorem E_laws_markMap_in_ok (k : Nat) : SoundE Tryd.prog glob (E_laws_markMap_in k) ∧ NatE (E_laws_markMap_in k) := tab_consI (by decide) (s_laws_markMap_in k) (E_laws_markIntS_in_ok k)
/-- laws.heldIntS -/
def cx_laws_heldIntS : Cx := { N := 21, G := glob, C := tys, ad := fun d => false, wk := false }
def sp_laws_heldIntS_l0 : LSp where
  cv := []
  ts := [(0, .val (.sl (.int .i64))), (1, .val (.int .i64)), (5, .val (.int .i64))]
  ids := []
  tx := fun e => match e with | .exit i => bif Nat.beq i 0 then [1] else [] | .ret => [4] | .normal => []
  ix := fun e => match e with | .exit i => bif Nat.beq i 0 then [] else [] | .ret => [] | .normal => []
def F_laws_heldIntS_l0 (k : Nat) : LArg sp_laws_heldIntS_l0 := fun K n x y => laws_heldIntS_l0 k (fun (y0 : Int) => K (.exit 0) (mkSt [(1, .val (.int .i64) y0)] [])) (fun (y0 : Int) => K (.ret) (mkSt [(4, .val (.int .i64) y0)] [])) n x.1 x.2.1 x.2.2.1
def LO_laws_heldIntS_l0 (k : Nat) : LTbl := (lcons 2 (ltab sp_laws_heldIntS_l0 (F_laws_heldIntS_l0 k) k) lnil)
theorem lk_laws_heldIntS_l0 (k : Nat) : LoopsOK Tryd.prog glob (E_laws_markMap_in k) cx_laws_heldIntS (LO_laws_heldIntS_l0 k) ((2, (loopB Tryd.f44 2)) :: []) :=
  LoopsOK.cons (LoopsOK.nil) (E_laws_markMap_in_ok k).2 (F := F_laws_heldIntS_l0 k) k [] (by kernel_rfl) (by kernel_rfl) (fun K x y => rfl) (fun n x y K => by kernel_rfl)
def F_laws_heldIntS (k : Nat) : FArg (.c (.val (.sl (.int .i64))) (.c (.val (.int .i64)) .e)) := fun x K => laws_heldIntS k x.1 x.2.1 (fun (r0 : Int) => K [⟨(.int .i64), r0, true⟩])
theorem s_laws_heldIntS (k : Nat) : SoundF Tryd.prog glob 44 (ftab (.c (.val (.sl (.int .i64))) (.c (.val (.int .i64)) .e)) (F_laws_heldIntS k)) :=
  fun_ok (cx := cx_laws_heldIntS) (by kernel_rfl) ⟨types, (E_laws_markMap_in_ok k).1, (E_laws_markMap_in_ok k).2, mixed, rfl⟩ Tryd.func44 rfl (lk_laws_heldIntS_l0 k) [0] (by kernel_rfl) (fun x K => by kernel_rfl)
def E_laws_heldIntS (k : Nat) : Tbl := tcons 44 (ftab (.c (.val (.sl (.int .i64))) (.c (.val (.int .i64)) .e)) (F_laws_heldIntS k)) (E_laws_markMap_in k)
theorem E_laws_heldIntS_ok (k : Nat) : SoundE Tryd.prog glob (E_laws_heldIntS k) ∧ NatE (E_laws_heldIntS k) := tab_cons (s_laws_heldIntS k) (E_laws_markMap_in_ok k)
/-- laws.FnExactNearOn -/
def cx_laws_FnExactNearOn : Cx := { N := 106, G := glob, C := tys, ad := fun d => Nat.beq d 20 || Nat.beq d 25 || Nat.beq d 28 || Nat.beq d 32 || Nat.beq d 37 || Nat.beq d 42 || Nat.beq d 62 || Nat.beq d 75 || Nat.beq d 83 || Nat.beq d 86 || Nat.beq d 91 || Nat.beq d 100, wk := false, ip := fun d => bif Nat.beq d 43 then 1 else bif Nat.beq d 18 then 1 else 0 }
def F_laws_FnExactNearOn (k : Nat) : FArg (.c (.val (.st (.pair (.int .i64) (.pair (.int .i64) (.pair (.sl (.int .i64)) (.pair (.sl (.int .i64)) (.sl (.int .i64)))))))) (.c (.val (.int .i64)) (.c (.val (.int .i64)) .e))) := fun x K => laws_FnExactNearOn k x.1 x.2.1 x.2.2.1 (fun (r0 : Bool) => K [⟨.bool, r0, true⟩])
theorem q_laws_FnExactNearOn (k : Nat) (c0 : (Int × Int × (List Int) × (List Int) × List Int) → Int → ∀ {R : Type}, (Int → Option R) → Option R) (c1 : (Int × Int × (List Int) × (List Int) × List Int) → ∀ {R : Type}, ((Int × Int × (List Int) × (List Int) × List Int) → Option R) → Option R) (c2 : (Int × Int × (List Int) × (List Int) × List Int) → Int → Int → ∀ {R : Type}, ((List Int) → Bool → Option R) → Option R) (c3 : (Int × Int × (List Int) × (List Int) × List Int) → Int → Int → ∀ {R : Type}, ((List Int) → Bool → Option R) → Option R) (c4 : (List Int) → (List Int) → ∀ {R : Type}, (Bool → Option R) → Option R) (c5 : (Int × Int × (List Int) × (List Int) × List Int) → (Int × Int × (List Int) × (List Int) × List Int) → ∀ {R : Type}, (Bool → Option R) → Option R) (c6 : (Int × Int × (List Int) × (List Int) × List Int) → Int → ∀ {R : Type}, ((Int × Int × (List Int) × (List Int) × List Int) → Int → Option R) → Option R) (c7 : (List Int) → Int → ∀ {R : Type}, ((List Int) → Int → Option R) → Option R) (c8 : (List Int) → Int → ∀ {R : Type}, (Int → Option R) → Option R) {R : Type} (x : ((.c (.val (.st (.pair (.int .i64) (.pair (.int .i64) (.pair (.sl (.int .i64)) (.pair (.sl (.int .i64)) (.sl (.int .i64)))))))) (.c (.val (.int .i64)) (.c (.val (.int .i64)) .e))) : Sh).den) (K : List Res → Option R) : (fun (x : Int × Int × (List Int) × (List Int) × List Int) (x0 : Int) (x1 : Int) (K : Bool → Option R) =>
    c0 x (1048576 : Int) fun (r : Int) =>
    bif decide (r < (0 : Int)) then
      K true
    else
      c1 x fun (r0 : Int × Int × (List Int) × (List Int) × List Int) =>
      c2 (r0.1, (r0.2.1, (r0.2.2.1, (r0.2.2.2.1, r0.2.2.2.2)))) x0 x1 fun (r1 : List Int) (r2 : Bool) =>
      c1 x fun (r3 : Int × Int × (List Int) × (List Int) × List Int) =>
      c3 (r3.1, (r3.2.1, (r3.2.2.1, (r3.2.2.2.1, r3.2.2.2.2)))) x0 x1 fun (r4 : List Int) (r5 : Bool) =>
      c4 r4 r1 fun (r6 : Bool) =>
      bif !r6 then
        K false
      else
        bif !(r5 == r2) then
          K false
        else
          c1 x fun (r7 : Int × Int × (List Int) × (List Int) × List Int) =>
          c5 (r3.1, (r3.2.1, (r3.2.2.1, (r3.2.2.2.1, r3.2.2.2.2)))) r7 fun (r8 : Bool) =>
          bif !r8 then
            K false
          else
            c6 (r3.1, (r3.2.1, (r3.2.2.1, (r3.2.2.2.1, r3.2.2.2.2)))) (1 : Int) fun (t : Int × Int × (List Int) × (List Int) × List Int) (r9 : Int) =>
            bif decide (r9 < (0 : Int)) then
              K false
            else
              c4 r4 r1 fun (r10 : Bool) =>
              bif !r10 then
                K false
              else
                bif !(r5 == r2) then
                  K false
                else
                  c7 r4 (1 : Int) fun (t0 : List Int) (r11 : Int) =>
                  c8 t0 (1 : Int) fun (r12 : Int) =>
                  bif decide (r12 < (0 : Int)) then
                    K false
                  else
                    bif !(decide (r12 = r11)) then
                      K false
                    else
                      c1 x fun (r13 : Int × Int × (List Int) × (List Int) × List Int) =>
                      c3 (r13.1, (r13.2.1, (r13.2.2.1, (r13.2.2.2.1, r13.2.2.2.2)))) x0 x1 fun (r14 : List Int) (r15 : Bool) =>
                      c4 r14 r1 fun (r16 : Bool) =>
                      bif !r16 then
                        K false
                      else
                        bif !(r15 == r2) then
                          K false
                        else
                          c8 t0 (1 : Int) fun (r17 : Int) =>
                          bif decide (r17 < (0 : Int)) then
                            K false
                          else
                            bif !(decide (r17 = r11)) then
                              K false
                            else
                              K true) x.1 x.2.1 x.2.2.1 (fun (r0 : Bool) => K [⟨.bool, r0, true⟩]) = evFun ((tcons 20 (ftab (.c (.val (.st (.pair (.int .i64) (.pair (.int .i64) (.pair (.sl (.int .i64)) (.pair (.sl (.int .i64)) (.sl (.int .i64)))))))) (.c (.val (.int .i64)) .e)) fun x K => c0 x.1 x.2.1 (fun (r0 : Int) => K [⟨(.int .i64), r0, true⟩])) (tcons 22 (ftab (.c (.val (.st (.pair (.int .i64) (.pair (.int .i64) (.pair (.sl (.int .i64)) (.pair (.sl (.int .i64)) (.sl (.int .i64)))))))) .e) fun x K => c1 x.1 (fun (r0 : Int × Int × (List Int) × (List Int) × List Int) => K [⟨(.st (.pair (.int .i64) (.pair (.int .i64) (.pair (.sl (.int .i64)) (.pair (.sl (.int .i64)) (.sl (.int .i64))))))), r0, true⟩])) (tcons 40 (ftab (.c (.val (.st (.pair (.int .i64) (.pair (.int .i64) (.pair (.sl (.int .i64)) (.pair (.sl (.int .i64)) (.sl (.int .i64)))))))) (.c (.val (.int .i64)) (.c (.val (.int .i64)) .e))) fun x K => c2 x.1 x.2.1 x.2.2.1 (fun (r0 : List Int) (r1 : Bool) => K [⟨(.sl (.int .i64)), r0, false⟩, ⟨.bool, r1, true⟩])) (tcons 41 (ftab (.c (.val (.st (.pair (.int .i64) (.pair (.int .i64) (.pair (.sl (.int .i64)) (.pair (.sl (.int .i64)) (.sl (.int .i64)))))))) (.c (.val (.int .i64)) (.c (.val (.int .i64)) .e))) fun x K => c3 x.1 x.2.1 x.2.2.1 (fun (r0 : List Int) (r1 : Bool) => K [⟨(.sl (.int .i64)), r0, true⟩, ⟨.bool, r1, true⟩])) (tcons 42 (ftab (.c (.val (.sl (.int .i64))) (.c (.val (.sl (.int .i64))) .e)) fun x K => c4 x.1 x.2.1 (fun (r0 : Bool) => K [⟨.bool, r0, true⟩])) (tcons 17 (ftab (.c (.val (.st (.pair (.int .i64) (.pair (.int .i64) (.pair (.sl (.int .i64)) (.pair (.sl (.int .i64)) (.sl (.int .i64)))))))) (.c (.val (.st (.pair (.int .i64) (.pair (.int .i64) (.pair (.sl (.int .i64)) (.pair (.sl (.int .i64)) (.sl (.int .i64)))))))) .e)) fun x K => c5 x.1 x.2.1 (fun (r0 : Bool) => K [⟨.bool, r0, true⟩])) (tcons (18 + 1000000 * 1) (ftab (.c (.val (.st (.pair (.int .i64) (.pair (.int .i64) (.pair (.sl (.int .i64)) (.pair (.sl (.int .i64)) (.sl (.int .i64)))))))) (.c (.val (.int .i64)) .e)) fun x K => c6 x.1 x.2.1 (fun (r0 : Int × Int × (List Int) × (List Int) × List Int) (r1 : Int) => K [⟨(.st (.pair (.int .i64) (.pair (.int .i64) (.pair (.sl (.int .i64)) (.pair (.sl (.int .i64)) (.sl (.int .i64))))))), r0, false⟩, ⟨(.int .i64), r1, true⟩])) (tcons (43 + 1000000 * 1) (ftab (.c (.val (.sl (.int .i64))) (.c (.val (.int .i64)) .e)) fun x K => c7 x.1 x.2.1 (fun (r0 : List Int) (r1 : Int) => K [⟨(.sl (.int .i64)), r0, false⟩, ⟨(.int .i64), r1, true⟩])) (tcons 44 (ftab (.c (.val (.sl (.int .i64))) (.c (.val (.int .i64)) .e)) fun x K => c8 x.1 x.2.1 (fun (r0 : Int) => K [⟨(.int .i64), r0, true⟩])) tnil)))))))))) lnil cx_laws_FnExactNearOn Tryd.f12 (give (.c (.val (.st (.pair (.int .i64) (.pair (.int .i64) (.pair (.sl (.int .i64)) (.pair (.sl (.int .i64)) (.sl (.int .i64)))))))) (.c (.val (.int .i64)) (.c (.val (.int .i64)) .e))) x) K := by kernel_rfl
theorem e_laws_FnExactNearOn (k : Nat) : SoundE Tryd.prog glob (tcons 20 (ftab (.c (.val (.st (.pair (.int .i64) (.pair (.int .i64) (.pair (.sl (.int .i64)) (.pair (.sl (.int .i64)) (.sl (.int .i64)))))))) (.c (.val (.int .i64)) .e)) (F_laws_szMap k)) (tcons 22 (ftab (.c (.val (.st (.pair (.int .i64) (.pair (.int .i64) (.pair (.sl (.int .i64)) (.pair (.sl (.int .i64)) (.sl (.int .i64)))))))) .e) (F_laws_toMap k)) (tcons 40 (ftab (.c (.val (.st (.pair (.int .i64) (.pair (.int .i64) (.pair (.sl (.int .i64)) (.pair (.sl (.int .i64)) (.sl (.int .i64)))))))) (.c (.val (.int .i64)) (.c (.val (.int .i64)) .e))) (F_spec_NearOn k)) (tcons 41 (ftab (.c (.val (.st (.pair (.int .i64) (.pair (.int .i64) (.pair (.sl (.int .i64)) (.pair (.sl (.int .i64)) (.sl (.int .i64)))))))) (.c (.val (.int .i64)) (.c (.val (.int .i64)) .e))) (F_impl_NearOn k)) (tcons 42 (ftab (.c (.val (.sl (.int .i64))) (.c (.val (.sl (.int .i64))) .e)) (F_laws_eqIntS k)) (tcons 17 (ftab (.c (.val (.st (.pair (.int .i64) (.pair (.int .i64) (.pair (.sl (.int .i64)) (.pair (.sl (.int .i64)) (.sl (.int .i64)))))))) (.c (.val (.st (.pair (.int .i64) (.pair (.int .i64) (.pair (.sl (.int .i64)) (.pair (.sl (.int .i64)) (.sl (.int .i64)))))))) .e)) (F_laws_eqMap k)) (tcons (18 + 1000000 * 1) (ftab (.c (.val (.st (.pair (.int .i64) (.pair (.int .i64) (.pair (.sl (.int .i64)) (.pair (.sl (.int .i64)) (.sl (.int .i64)))))))) (.c (.val (.int .i64)) .e)) (F_laws_markMap_in k)) (tcons (43 + 1000000 * 1) (ftab (.c (.val (.sl (.int .i64))) (.c (.val (.int .i64)) .e)) (F_laws_markIntS_in k)) (tcons 44 (ftab (.c (.val (.sl (.int .i64))) (.c (.val (.int .i64)) .e)) (F_laws_heldIntS k)) tnil))))))))) ∧ NatE (tcons 20 (ftab (.c (.val (.st (.pair (.int .i64) (.pair (.int .i64) (.pair (.sl (.int .i64)) (.pair (.sl (.int .i64)) (.sl (.int .i64)))))))) (.c (.val (.int .i64)) .e)) (F_laws_szMap k)) (tcons 22 (ftab (.c (.val (.st (.pair (.int .i64) (.pair (.int .i64) (.pair (.sl (.int .i64)) (.pair (.sl (.int .i64)) (.sl (.int .i64)))))))) .e) (F_laws_toMap k)) (tcons 40 (ftab (.c (.val (.st (.pair (.int .i64) (.pair (.int .i64) (.pair (.sl (.int .i64)) (.pair (.sl (.int .i64)) (.sl (.int .i64)))))))) (.c (.val (.int .i64)) (.c (.val (.int .i64)) .e))) (F_spec_NearOn k)) (tcons 41 (ftab (.c (.val (.st (.pair (.int .i64) (.pair (.int .i64) (.pair (.sl (.int .i64)) (.pair (.sl (.int .i64)) (.sl (.int .i64)))))))) (.c (.val (.int .i64)) (.c (.val (.int .i64)) .e))) (F_impl_NearOn k)) (tcons 42 (ftab (.c (.val (.sl (.int .i64))) (.c (.val (.sl (.int .i64))) .e)) (F_laws_eqIntS k)) (tcons 17 (ftab (.c (.val (.st (.pair (.int .i64) (.pair (.int .i64) (.pair (.sl (.int .i64)) (.pair (.sl (.int .i64)) (.sl (.int .i64)))))))) (.c (.val (.st (.pair (.int .i64) (.pair (.int .i64) (.pair (.sl (.int .i64)) (.pair (.sl (.int .i64)) (.sl (.int .i64)))))))) .e)) (F_laws_eqMap k)) (tcons (18 + 1000000 * 1) (ftab (.c (.val (.st (.pair (.int .i64) (.pair (.int .i64) (.pair (.sl (.int .i64)) (.pair (.sl (.int .i64)) (.sl (.int .i64)))))))) (.c (.val (.int .i64)) .e)) (F_laws_markMap_in k)) (tcons (43 + 1000000 * 1) (ftab (.c (.val (.sl (.int .i64))) (.c (.val (.int .i64)) .e)) (F_laws_markIntS_in k)) (tcons 44 (ftab (.c (.val (.sl (.int .i64))) (.c (.val (.int .i64)) .e)) (F_laws_heldIntS k)) tnil))))))))) := (tab_cons (s_laws_szMap k) (tab_cons (s_laws_toMap k) (tab_cons (s_spec_NearOn k) (tab_cons (s_impl_NearOn k) (tab_cons (s_laws_eqIntS k) (tab_cons (s_laws_eqMap k) (tab_consI (by decide) (s_laws_markMap_in k) (tab_consI (by decide) (s_laws_markIntS_in k) (tab_cons (s_laws_heldIntS k) e0)))))))))
theorem s_laws_FnExactNearOn (k : Nat) : SoundF Tryd.prog glob 12 (ftab (.c (.val (.st (.pair (.int .i64) (.pair (.int .i64) (.pair (.sl (.int .i64)) (.pair (.sl (.int .i64)) (.sl (.int .i64)))))))) (.c (.val (.int .i64)) (.c (.val (.int .i64)) .e))) (F_laws_FnExactNearOn k)) :=
  fun_ok (cx := cx_laws_FnExactNearOn) (by kernel_rfl) ⟨types, (e_laws_FnExactNearOn k).1, (e_laws_FnExactNearOn k).2, mixed, rfl⟩ Tryd.func12 rfl (LoopsOK.nil) [] (by kernel_rfl) (fun x K => q_laws_FnExactNearOn k (fun a0 a1 {_} K => laws_szMap a0 a1 K) (fun a0 {_} K => laws_toMap k a0 K) (fun a0 a1 a2 {_} K => spec_NearOn k a0 a1 a2 K) (fun a0 a1 a2 {_} K => impl_NearOn k a0 a1 a2 K) (fun a0 a1 {_} K => laws_eqIntS k a0 a1 K) (fun a0 a1 {_} K => laws_eqMap k a0 a1 K) (fun a0 a1 {_} K => laws_markMap_in k a0 a1 K) (fun a0 a1 {_} K => laws_markIntS_in k a0 a1 K) (fun a0 a1 {_} K => laws_heldIntS k a0 a1 K) x K)
def E_laws_FnExactNearOn (k : Nat) : Tbl := tcons 12 (ftab (.c (.val (.st (.pair (.int .i64) (.pair (.int .i64) (.pair (.sl (.int .i64)) (.pair (.sl (.int .i64)) (.sl (.int .i64)))))))) (.c (.val (.int .i64)) (.c (.val (.int .i64)) .e))) (F_laws_FnExactNearOn k)) (E_laws_heldIntS k)
theorem E_laws_FnExactNearOn_ok (k : Nat) : SoundE Tryd.prog glob (E_laws_FnExactNearOn k) ∧ NatE (E_laws_FnExactNearOn k) := tab_cons (s_laws_FnExactNearOn k) (E_laws_heldIntS_ok k)
end Go.Proofs.YtllmbnfceffgmaaDoor.TieNearOn
