import Derived.Test.YtpaikmmncnigkaaDoorEv3
import Derived.Test.YtpaikmmncnigkaaDoorLgDEFTALBL
import Derived.KernelRfl
import Derived.Eval
import Derived.Test.YtpaikmmncnigkaaDoorProg
import Derived.Test.YtpaikmmncnigkaaDoorChecked
set_option linter.unusedVariables false
set_option linter.unusedSimpArgs false
set_option linter.unusedSectionVars false
set_option linter.unusedVariables false
set_option maxRecDepth 100000
namespace Go.Proofs.YtpaikmmncnigkaaDoor.TieWalkFrom
open Go Go.Ev Go.Lg Go.Proofs
def tys : Nat → Option Ty := lookT [(3, (.int .i64)), (4, .bool), (23, (.st (.pair (.int .i64) (.int .i64)))), (26, (.st (.pair (.int .i64) (.int .i64)))), (33, (.sl (.st (.pair (.int .i64) (.int .i64))))), (38, (.sl (.int .i64))), (46, (.arr 6 (.st (.pair (.int .i64) (.int .i64)))))]
def glob : Nat → AV := fun g => bif Nat.beq g 0 then .pval (.arr 6 (.st (.pair (.int .i64) (.int .i64)))) impl_directions else .bot
theorem types : Types Tryd.prog tys := types_of (by kernel_rfl)
theorem mixed : Tryd.prog.follows .mixedOrders = true := Checked.mixed Tryd.checked
theorem e0 : SoundE Tryd.prog glob tnil ∧ NatE tnil := ⟨tnil_sound, tnil_nat⟩
theorem tab_cons {n : Nat} {t : FFun} {E : Tbl} (h : SoundF Tryd.prog glob n t) (h2 : SoundE Tryd.prog glob E ∧ NatE E) : SoundE Tryd.prog glob (tcons n t E) ∧ NatE (tcons n t E) := ⟨tcons_sound h h2.1, tcons_nat h h2.2⟩
theorem tab_consI {n m : Nat} {t : FFun} {E : Tbl} (hm : m ≠ 0) (h : SoundI Tryd.prog glob n m t) (h2 : SoundE Tryd.prog glob E ∧ NatE E) : SoundE Tryd.prog glob (tcons (n + 1000000 * m) t E) ∧ NatE (tcons (n + 1000000 * m) t E) := ⟨tconsI_sound hm h h2.1, tconsI_nat h h2.2⟩
/-- laws.toHex -/
def cx_laws_toHex : Cx := { N := 11, G := glob, C := tys, ad := fun d => false, wk := false }
def F_laws_toHex (k : Nat) : FArg (.c (.val (.st (.pair (.int .i64) (.int .i64)))) .e) := fun x K => laws_toHex x.1 (fun (r0 : Int × Int) => K [⟨(.st (.pair (.int .i64) (.int .i64))), r0, true⟩])
theorem s_laws_toHex (k : Nat) : SoundF Tryd.prog glob 8 (ftab (.c (.val (.st (.pair (.int .i64) (.int .i64)))) .e) (F_laws_toHex k)) :=
  fun_ok (cx := cx_laws_toHex) (by kernel_rfl) ⟨types, (e0).1, (e0).2, mixed, rfl⟩ Tryd.func8 rfl (LoopsOK.nil) [] (by kernel_rfl) (fun x K => by kernel_rfl)
def E_laws_toHex (k : Nat) : Tbl := tcons 8 (ftab (.c (.val (.st (.pair (.int .i64) (.int .i64)))) .e) (F_laws_toHex k)) (tnil)
theorem E_laws_toHex_ok (k : Nat) : SoundE Tryd.prog glob (E_laws_toHex k) ∧ NatE (E_laws_toHex k) := tab_cons (s_laws_toHex k) (e0)
/-- laws.toIntS -/
def cx_laws_toIntS : Cx := { N := 22, G := glob, C := tys, ad := fun d => false, wk := false }
def sp_laws_toIntS_l0 : LSp where
  cv := []
  ts := [(0, .val (.sl (.int .i64))), (3, .own 7), (4, .val (.int .i64))]
  ids := [(7, .row (.int .i64))]
  tx := fun e => match e with | .exit i => bif Nat.beq i 0 then [3] else [] | .ret => [] | .normal => []
  ix := fun e => match e with | .exit i => bif Nat.beq i 0 then [7] else [] | .ret => [] | .normal => []
def F_laws_toIntS_l0 (k : Nat) : LArg sp_laws_toIntS_l0 := fun K n x y => laws_toIntS_l0 k (fun (y0 : List Int) => K (.exit 0) (mkSt [(3, .own 7 1)] [(7, some (.row (.int .i64) y0))])) n x.1 x.2.2.1 y.1
def LO_laws_toIntS_l0 (k : Nat) : LTbl := (lcons 3 (ltab sp_laws_toIntS_l0 (F_laws_toIntS_l0 k) k) lnil)
theorem lk_laws_toIntS_l0 (k : Nat) : LoopsOK Tryd.prog glob (E_laws_toHex k) cx_laws_toIntS (LO_laws_toIntS_l0 k) ((3, (loopB Tryd.f19 3)) :: []) :=
  LoopsOK.cons (LoopsOK.nil) (E_laws_toHex_ok k).2 (F := F_laws_toIntS_l0 k) k [] (by kernel_rfl) (by kernel_rfl) (fun K x y => rfl) (fun n x y K => by kernel_rfl)
def F_laws_toIntS (k : Nat) : FArg (.c (.val (.sl (.int .i64))) .e) := fun x K => laws_toIntS k x.1 (fun (r0 : List Int) => K [⟨(.sl (.int .i64)), r0, true⟩])
theorem s_laws_toIntS (k : Nat) : SoundF Tryd.prog glob 19 (ftab (.c (.val (.sl (.int .i64))) .e) (F_laws_toIntS k)) :=
  fun_ok (cx := cx_laws_toIntS) (by kernel_rfl) ⟨types, (E_laws_toHex_ok k).1, (E_laws_toHex_ok k).2, mixed, rfl⟩ Tryd.func19 rfl (lk_laws_toIntS_l0 k) [0] (by kernel_rfl) (fun x K => by kernel_rfl)
def E_laws_toIntS (k : Nat) : Tbl := tcons 19 (ftab (.c (.val (.sl (.int .i64))) .e) (F_laws_toIntS k)) (E_laws_toHex k)
theorem E_laws_toIntS_ok (k : Nat) : SoundE Tryd.prog glob (E_laws_toIntS k) ∧ NatE (E_laws_toIntS k) := tab_cons (s_laws_toIntS k) (E_laws_toHex_ok k)
/-- spec.l1In -/
def cx_spec_l1In : Cx := { N := 15, G := glob, C := tys, ad := fun d => false, wk := false }
def F_spec_l1In (k : Nat) : FArg (.c (.val (.int .i64)) (.c (.val (.int .i64)) (.c (.val (.int .i64)) .e))) := fun x K => spec_l1In x.1 x.2.1 x.2.2.1 (fun (r0 : Bool) => K [⟨.bool, r0, true⟩])
theorem s_spec_l1In (k : Nat) : SoundF Tryd.prog glob 27 (ftab (.c (.val (.int .i64)) (.c (.val (.int .i64)) (.c (.val (.int .i64)) .e))) (F_spec_l1In k)) :=
  fun_ok (cx := cx_spec_l1In) (by kernel_rfl) ⟨types, (E_laws_toIntS_ok k).1, (E_laws_toIntS_ok k).2, mixed, rfl⟩ Tryd.func27 rfl (LoopsOK.nil) [] (by kernel_rfl) (fun x K => by kernel_rfl)
def E_spec_l1In (k : Nat) : Tbl := tcons 27 (ftab (.c (.val (.int .i64)) (.c (.val (.int .i64)) (.c (.val (.int .i64)) .e))) (F_spec_l1In k)) (E_laws_toIntS k)
theorem E_spec_l1In_ok (k : Nat) : SoundE Tryd.prog glob (E_spec_l1In k) ∧ NatE (E_spec_l1In k) := tab_cons (s_spec_l1In k) (E_laws_toIntS_ok k)
/-- spec.hGood -/
def cx_spec_hGood : Cx := { N := 11, G := glob, C := tys, ad := fun d => false, wk := false }
def F_spec_hGood (k : Nat) : FArg (.c (.val (.st (.pair (.int .i64) (.int .i64)))) .e) := fun x K => spec_hGood x.1 (fun (r0 : Bool) => K [⟨.bool, r0, true⟩])
theorem s_spec_hGood (k : Nat) : SoundF Tryd.prog glob 23 (ftab (.c (.val (.st (.pair (.int .i64) (.int .i64)))) .e) (F_spec_hGood k)) :=
  fun_ok (cx := cx_spec_hGood) (by kernel_rfl) ⟨types, (E_spec_l1In_ok k).1, (E_spec_l1In_ok k).2, mixed, rfl⟩ Tryd.func23 rfl (LoopsOK.nil) [] (by kernel_rfl) (fun x K => by kernel_rfl)
def E_spec_hGood (k : Nat) : Tbl := tcons 23 (ftab (.c (.val (.st (.pair (.int .i64) (.int .i64)))) .e) (F_spec_hGood k)) (E_spec_l1In k)
theorem E_spec_hGood_ok (k : Nat) : SoundE Tryd.prog glob (E_spec_hGood k) ∧ NatE (E_spec_hGood k) := tab_cons (s_spec_hGood k) (E_spec_l1In_ok k)
/-- spec.l1All -/
def cx_spec_l1All : Cx := { N := 21, G := glob, C := tys, ad := fun d => false, wk := false }
def sp_spec_l1All_l0 : LSp where
  cv := []
  ts := [(1, .val (.int .i64)), (2, .val (.int .i64)), (9, .val (.sl (.int .i64))), (10, .val (.int .i64)), (11, .val (.int .i64))]
  ids := []
  tx := fun e => match e with | .exit i => bif Nat.beq i 0 then [] else [] | .ret => [6] | .normal => []
  ix := fun e => match e with | .exit i => bif Nat.beq i 0 then [] else [] | .ret => [] | .normal => []
def F_spec_l1All_l0 (k : Nat) : LArg sp_spec_l1All_l0 := fun K n x y => spec_l1All_l0 k (K (.exit 0) (mkSt [] [])) (fun (y0 : Bool) => K (.ret) (mkSt [(6, .val .bool y0)] [])) n x.1 x.2.1 x.2.2.1 x.2.2.2.1 x.2.2.2.2.1
def LO_spec_l1All_l0 (k : Nat) : LTbl := (lcons 2 (ltab sp_spec_l1All_l0 (F_spec_l1All_l0 k) k) lnil)
theorem lk_spec_l1All_l0 (k : Nat) : LoopsOK Tryd.prog glob (E_spec_hGood k) cx_spec_l1All (LO_spec_l1All_l0 k) ((2, (loopB Tryd.f35 2)) :: []) :=
  LoopsOK.cons (LoopsOK.nil) (E_spec_hGood_ok k).2 (F := F_spec_l1All_l0 k) k [] (by kernel_rfl) (by kernel_rfl) (fun K x y => rfl) (fun n x y K => by kernel_rfl)
def F_spec_l1All (k : Nat) : FArg (.c (.val (.sl (.int .i64))) (.c (.val (.int .i64)) (.c (.val (.int .i64)) .e))) := fun x K => spec_l1All k x.1 x.2.1 x.2.2.1 (fun (r0 : Bool) => K [⟨.bool, r0, true⟩])
theorem s_spec_l1All (k : Nat) : SoundF Tryd.prog glob 35 (ftab (.c (.val (.sl (.int .i64))) (.c (.val (.int .i64)) (.c (.val (.int .i64)) .e))) (F_spec_l1All k)) :=
  fun_ok (cx := cx_spec_l1All) (by kernel_rfl) ⟨types, (E_spec_hGood_ok k).1, (E_spec_hGood_ok k).2, mixed, rfl⟩ Tryd.func35 rfl (lk_spec_l1All_l0 k) [0] (by kernel_rfl) (fun x K => by kernel_rfl)
def E_spec_l1All (k : Nat) : Tbl := tcons 35 (ftab (.c (.val (.sl (.int .i64))) (.c (.val (.int .i64)) (.c (.val (.int .i64)) .e))) (F_spec_l1All k)) (E_spec_hGood k)
theorem E_spec_l1All_ok (k : Nat) : SoundE Tryd.prog glob (E_spec_l1All k) ∧ NatE (E_spec_l1All k) := tab_cons (s_spec_l1All k) (E_spec_hGood_ok k)
/-- spec.hStep -/
def cx_spec_hStep : Cx := { N := 20, G := glob, C := tys, ad := fun d => false, wk := false }
def F_spec_hStep (k : Nat) : FArg (.c (.val (.st (.pair (.int .i64) (.int .i64)))) (.c (.val (.int .i64)) .e)) := fun x K => spec_hStep x.1 x.2.1 (fun (r0 : Int × Int) => K [⟨(.st (.pair (.int .i64) (.int .i64))), r0, true⟩])
theorem s_spec_hStep (k : Nat) : SoundF Tryd.prog glob 24 (ftab (.c (.val (.st (.pair (.int .i64) (.int .i64)))) (.c (.val (.int .i64)) .e)) (F_spec_hStep k)) :=
  fun_ok (cx := cx_spec_hStep) (by kernel_rfl) ⟨types, (E_spec_l1All_ok k).1, (E_spec_l1All_ok k).2, mixed, rfl⟩ Tryd.func24 rfl (LoopsOK.nil) [] (by kernel_rfl) (fun x K => by kernel_rfl)
def E_spec_hStep (k : Nat) : Tbl := tcons 24 (ftab (.c (.val (.st (.pair (.int .i64) (.int .i64)))) (.c (.val (.int .i64)) .e)) (F_spec_hStep k)) (E_spec_l1All k)
theorem E_spec_hStep_ok (k : Nat) : SoundE Tryd.prog glob (E_spec_hStep k) ∧ NatE (E_spec_hStep k) := tab_cons (s_spec_hStep k) (E_spec_l1All_ok k)
/-- spec.hAll -/
def cx_spec_hAll : Cx := { N := 17, G := glob, C := tys, ad := fun d => false, wk := true }
def sp_spec_hAll_l0 : LSp where
  cv := []
  ts := [(0, .val (.sl (.st (.pair (.int .i64) (.int .i64))))), (6, .val (.sl (.st (.pair (.int .i64) (.int .i64))))), (7, .val (.int .i64)), (8, .val (.int .i64))]
  ids := []
  tx := fun e => match e with | .exit i => bif Nat.beq i 0 then [0] else [] | .ret => [2, 3] | .normal => []
  ix := fun e => match e with | .exit i => bif Nat.beq i 0 then [] else [] | .ret => [] | .normal => []
def F_spec_hAll_l0 (k : Nat) : LArg sp_spec_hAll_l0 := fun K n x y => spec_hAll_l0 k (fun (y0 : List (Int × Int)) => K (.exit 0) (mkSt [(0, .val (.sl (.st (.pair (.int .i64) (.int .i64)))) y0)] [])) (fun (y0 : Bool) => K (.ret) (mkSt [(2, .nil), (3, .val .bool y0)] [])) n x.1 x.2.1 x.2.2.1 x.2.2.2.1
def LO_spec_hAll_l0 (k : Nat) : LTbl := (lcons 2 (ltab sp_spec_hAll_l0 (F_spec_hAll_l0 k) k) lnil)
theorem lk_spec_hAll_l0 (k : Nat) : LoopsOK Tryd.prog glob (E_spec_hStep k) cx_spec_hAll (LO_spec_hAll_l0 k) ((2, (loopB Tryd.f31 2)) :: []) :=
  LoopsOK.cons (LoopsOK.nil) (E_spec_hStep_ok k).2 (F := F_spec_hAll_l0 k) k [] (by kernel_rfl) (by kernel_rfl) (fun K x y => rfl) (fun n x y K => by kernel_rfl)
def F_spec_hAll (k : Nat) : FArg (.c (.val (.sl (.st (.pair (.int .i64) (.int .i64))))) .e) := fun x K => spec_hAll k x.1 (fun (r0 : List (Int × Int)) (r1 : Bool) => K [⟨(.sl (.st (.pair (.int .i64) (.int .i64)))), r0, false⟩, ⟨.bool, r1, true⟩])
theorem s_spec_hAll (k : Nat) : SoundF Tryd.prog glob 31 (ftab (.c (.val (.sl (.st (.pair (.int .i64) (.int .i64))))) .e) (F_spec_hAll k)) :=
  fun_ok (cx := cx_spec_hAll) (by kernel_rfl) ⟨types, (E_spec_hStep_ok k).1, (E_spec_hStep_ok k).2, mixed, rfl⟩ Tryd.func31 rfl (lk_spec_hAll_l0 k) [0] (by kernel_rfl) (fun x K => by kernel_rfl)
def E_spec_hAll (k : Nat) : Tbl := tcons 31 (ftab (.c (.val (.sl (.st (.pair (.int .i64) (.int .i64))))) .e) (F_spec_hAll k)) (E_spec_hStep k)
theorem E_spec_hAll_ok (k : Nat) : SoundE Tryd.prog glob (E_spec_hAll k) ∧ NatE (E_spec_hAll k) := tab_cons (s_spec_hAll k) (E_spec_hStep_ok k)
/-- spec.WalkFrom -/
def cx_spec_WalkFrom : Cx := { N := 40, G := glob, C := tys, ad := fun d => false, wk := true }
def sp_spec_WalkFrom_l0 : LSp where
  cv := [(6, 2000006, (.st (.pair (.int .i64) (.int .i64))))]
  ts := [(2, .ptr 2), (6, .own 2000006), (22, .val (.sl (.int .i64))), (23, .val (.int .i64)), (24, .val (.int .i64))]
  ids := [(2, .box (.st (.pair (.int .i64) (.int .i64))) (.val (.st (.pair (.int .i64) (.int .i64))))), (2000006, .row (.st (.pair (.int .i64) (.int .i64))))]
  tx := fun e => match e with | .exit i => bif Nat.beq i 0 then [6] else [] | .ret => [] | .normal => []
  ix := fun e => match e with | .exit i => bif Nat.beq i 0 then [2000006] else [] | .ret => [] | .normal => []
def F_spec_WalkFrom_l0 (k : Nat) : LArg sp_spec_WalkFrom_l0 := fun K n x y => spec_WalkFrom_l0 k (fun (y0 : List (Int × Int)) => K (.exit 0) (mkSt [(6, .own 2000006 1)] [(2000006, some (.row (.st (.pair (.int .i64) (.int .i64))) y0))])) n x.2.2.1 x.2.2.2.1 x.2.2.2.2.1 y.1 y.2.1
def LO_spec_WalkFrom_l0 (k : Nat) : LTbl := (lcons 5 (ltab sp_spec_WalkFrom_l0 (F_spec_WalkFrom_l0 k) k) lnil)
theorem lk_spec_WalkFrom_l0 (k : Nat) : LoopsOK Tryd.prog glob (E_spec_hAll k) cx_spec_WalkFrom (LO_spec_WalkFrom_l0 k) ((5, (loopB Tryd.f18 5)) :: []) :=
  LoopsOK.cons (LoopsOK.nil) (E_spec_hAll_ok k).2 (F := F_spec_WalkFrom_l0 k) k [] (by kernel_rfl) (by kernel_rfl) (fun K x y => rfl) (fun n x y K => by kernel_rfl)
def F_spec_WalkFrom (k : Nat) : FArg (.c (.val (.st (.pair (.int .i64) (.int .i64)))) (.c (.val (.sl (.int .i64))) .e)) := fun x K => spec_WalkFrom k x.1 x.2.1 (fun (r0 : List (Int × Int)) (r1 : Bool) => K [⟨(.sl (.st (.pair (.int .i64) (.int .i64)))), r0, false⟩, ⟨.bool, r1, true⟩])
theorem s_spec_WalkFrom (k : Nat) : SoundF Tryd.prog glob 18 (ftab (.c (.val (.st (.pair (.int .i64) (.int .i64)))) (.c (.val (.sl (.int .i64))) .e)) (F_spec_WalkFrom k)) :=
  fun_ok (cx := cx_spec_WalkFrom) (by kernel_rfl) ⟨types, (E_spec_hAll_ok k).1, (E_spec_hAll_ok k).2, mixed, rfl⟩ Tryd.func18 rfl (lk_spec_WalkFrom_l0 k) [0] (by kernel_rfl) (fun x K => by kernel_rfl)
def E_spec_WalkFrom (k : Nat) : Tbl := tcons 18 (ftab (.c (.val (.st (.pair (.int .i64) (.int .i64)))) (.c (.val (.sl (.int .i64))) .e)) (F_spec_WalkFrom k)) (E_spec_hAll k)
theorem E_spec_WalkFrom_ok (k : Nat) : SoundE Tryd.prog glob (E_spec_WalkFrom k) ∧ NatE (E_spec_WalkFrom k) := tab_cons (s_spec_WalkFrom k) (E_spec_hAll_ok k)
/-- impl.inRange -/
def cx_impl_inRange : Cx := { N := 15, G := glob, C := tys, ad := fun d => false, wk := false }
def F_impl_inRange (k : Nat) : FArg (.c (.val (.int .i64)) (.c (.val (.int .i64)) (.c (.val (.int .i64)) .e))) := fun x K => impl_inRange x.1 x.2.1 x.2.2.1 (fun (r0 : Bool) => K [⟨.bool, r0, true⟩])
theorem s_impl_inRange (k : Nat) : SoundF Tryd.prog glob 33 (ftab (.c (.val (.int .i64)) (.c (.val (.int .i64)) (.c (.val (.int .i64)) .e))) (F_impl_inRange k)) :=
  fun_ok (cx := cx_impl_inRange) (by kernel_rfl) ⟨types, (E_spec_WalkFrom_ok k).1, (E_spec_WalkFrom_ok k).2, mixed, rfl⟩ Tryd.func33 rfl (LoopsOK.nil) [] (by kernel_rfl) (fun x K => by kernel_rfl)
def E_impl_inRange (k : Nat) : Tbl := tcons 33 (ftab (.c (.val (.int .i64)) (.c (.val (.int .i64)) (.c (.val (.int .i64)) .e))) (F_impl_inRange k)) (E_spec_WalkFrom k)
theorem E_impl_inRange_ok (k : Nat) : SoundE Tryd.prog glob (E_impl_inRange k) ∧ NatE (E_impl_inRange k) := tab_cons (s_impl_inRange k) (E_spec_WalkFrom_ok k)
/-- impl.IsHex -/
def cx_impl_IsHex : Cx := { N := 11, G := glob, C := tys, ad := fun d => Nat.beq d 5 || Nat.beq d 9, wk := false }
def F_impl_IsHex (k : Nat) : FArg (.c (.val (.st (.pair (.int .i64) (.int .i64)))) .e) := fun x K => impl_IsHex x.1 (fun (r0 : Bool) => K [⟨.bool, r0, true⟩])
theorem s_impl_IsHex (k : Nat) : SoundF Tryd.prog glob 25 (ftab (.c (.val (.st (.pair (.int .i64) (.int .i64)))) .e) (F_impl_IsHex k)) :=
  fun_ok (cx := cx_impl_IsHex) (by kernel_rfl) ⟨types, (E_impl_inRange_ok k).1, (E_impl_inRange_ok k).2, mixed, rfl⟩ Tryd.func25 rfl (LoopsOK.nil) [] (by kernel_rfl) (fun x K => by kernel_rfl)
def E_impl_IsHex (k : Nat) : Tbl := tcons 25 (ftab (.c (.val (.st (.pair (.int .i64) (.int .i64)))) .e) (F_impl_IsHex k)) (E_impl_inRange k)
theorem E_impl_IsHex_ok (k : Nat) : SoundE Tryd.prog glob (E_impl_IsHex k) ∧ NatE (E_impl_IsHex k) := tab_cons (s_impl_IsHex k) (E_impl_inRange_ok k)
/-- impl.isDirection -/
def cx_impl_isDirection : Cx := { N := 5, G := glob, C := tys, ad := fun d => Nat.beq d 4, wk := false }
def F_impl_isDirection (k : Nat) : FArg (.c (.val (.int .i64)) .e) := fun x K => impl_isDirection x.1 (fun (r0 : Bool) => K [⟨.bool, r0, true⟩])
theorem s_impl_isDirection (k : Nat) : SoundF Tryd.prog glob 29 (ftab (.c (.val (.int .i64)) .e) (F_impl_isDirection k)) :=
  fun_ok (cx := cx_impl_isDirection) (by kernel_rfl) ⟨types, (E_impl_IsHex_ok k).1, (E_impl_IsHex_ok k).2, mixed, rfl⟩ Tryd.func29 rfl (LoopsOK.nil) [] (by kernel_rfl) (fun x K => by kernel_rfl)
def E_impl_isDirection (k : Nat) : Tbl := tcons 29 (ftab (.c (.val (.int .i64)) .e) (F_impl_isDirection k)) (E_impl_IsHex k)
theorem E_impl_isDirection_ok (k : Nat) : SoundE Tryd.prog glob (E_impl_isDirection k) ∧ NatE (E_impl_isDirection k) := tab_cons (s_impl_isDirection k) (E_impl_IsHex_ok k)
/-- impl.stepBy -/
def cx_impl_stepBy : Cx := { N := 26, G := glob, C := tys, ad := fun d => false, wk := false }
def F_impl_stepBy (k : Nat) : FArg (.c (.val (.st (.pair (.int .i64) (.int .i64)))) (.c (.val (.int .i64)) (.c (.val (.int .i64)) .e))) := fun x K => impl_stepBy x.1 x.2.1 x.2.2.1 (fun (r0 : Int × Int) => K [⟨(.st (.pair (.int .i64) (.int .i64))), r0, true⟩])
theorem s_impl_stepBy (k : Nat) : SoundF Tryd.prog glob 26 (ftab (.c (.val (.st (.pair (.int .i64) (.int .i64)))) (.c (.val (.int .i64)) (.c (.val (.int .i64)) .e))) (F_impl_stepBy k)) :=
  fun_ok (cx := cx_impl_stepBy) (by kernel_rfl) ⟨types, (E_impl_isDirection_ok k).1, (E_impl_isDirection_ok k).2, mixed, rfl⟩ Tryd.func26 rfl (LoopsOK.nil) [] (by kernel_rfl) (fun x K => by kernel_rfl)
def E_impl_stepBy (k : Nat) : Tbl := tcons 26 (ftab (.c (.val (.st (.pair (.int .i64) (.int .i64)))) (.c (.val (.int .i64)) (.c (.val (.int .i64)) .e))) (F_impl_stepBy k)) (E_impl_isDirection k)
theorem E_impl_stepBy_ok (k : Nat) : SoundE Tryd.prog glob (E_impl_stepBy k) ∧ NatE (E_impl_stepBy k) := tab_cons (s_impl_stepBy k) (E_impl_isDirection_ok k)
/-- impl.WalkFrom -/
def cx_impl_WalkFrom : Cx := { N := 48, G := glob, C := tys, ad := fun d => Nat.beq d 12 || Nat.beq d 26 || Nat.beq d 38 || Nat.beq d 40, wk := false }
def sp_impl_WalkFrom_l0 : LSp where
  cv := []
  ts := [(1, .val (.sl (.int .i64))), (2, .ptr 2), (19, .val (.sl (.int .i64))), (20, .val (.int .i64)), (21, .val (.int .i64))]
  ids := [(2, .box (.st (.pair (.int .i64) (.int .i64))) (.val (.st (.pair (.int .i64) (.int .i64)))))]
  tx := fun e => match e with | .exit i => bif Nat.beq i 0 then [1, 2] else [] | .ret => [4, 5] | .normal => []
  ix := fun e => match e with | .exit i => bif Nat.beq i 0 then [2] else [] | .ret => [] | .normal => []
def F_impl_WalkFrom_l0 (k : Nat) : LArg sp_impl_WalkFrom_l0 := fun K n x y => impl_WalkFrom_l0 k (fun (y0 : List Int) (y1 : Int × Int) => K (.exit 0) (mkSt [(1, .val (.sl (.int .i64)) y0), (2, .ptr 2 1 [])] [(2, some (.box (.st (.pair (.int .i64) (.int .i64))) (.val (.st (.pair (.int .i64) (.int .i64))) y1)))])) (fun (y0 : Bool) => K (.ret) (mkSt [(4, .nil), (5, .val .bool y0)] [])) n x.1 x.2.2.1 x.2.2.2.1 x.2.2.2.2.1 y.1
def LO_impl_WalkFrom_l0 (k : Nat) : LTbl := (lcons 4 (ltab sp_impl_WalkFrom_l0 (F_impl_WalkFrom_l0 k) k) lnil)
theorem lk_impl_WalkFrom_l0 (k : Nat) : LoopsOK Tryd.prog glob (E_impl_stepBy k) cx_impl_WalkFrom (LO_impl_WalkFrom_l0 k) ((4, (loopB Tryd.f20 4)) :: []) :=
  LoopsOK.cons (LoopsOK.nil) (E_impl_stepBy_ok k).2 (F := F_impl_WalkFrom_l0 k) k [] (by kernel_rfl) (by kernel_rfl) (fun K x y => rfl) (fun n x y K => by kernel_rfl)
def sp_impl_WalkFrom_l1 : LSp where
  cv := []
  ts := [(2, .ptr 2), (8, .own 29), (30, .val (.sl (.int .i64))), (31, .val (.int .i64)), (32, .val (.int .i64))]
  ids := [(2, .box (.st (.pair (.int .i64) (.int .i64))) (.val (.st (.pair (.int .i64) (.int .i64))))), (29, .row (.st (.pair (.int .i64) (.int .i64))))]
  tx := fun e => match e with | .exit i => bif Nat.beq i 2 then [8] else [] | .ret => [4, 5] | .normal => []
  ix := fun e => match e with | .exit i => bif Nat.beq i 2 then [29] else [] | .ret => [] | .normal => []
def F_impl_WalkFrom_l1 (k : Nat) : LArg sp_impl_WalkFrom_l1 := fun K n x y => impl_WalkFrom_l1 k (fun (y0 : List (Int × Int)) => K (.exit 2) (mkSt [(8, .own 29 1)] [(29, some (.row (.st (.pair (.int .i64) (.int .i64))) y0))])) (fun (y0 : Bool) => K (.ret) (mkSt [(4, .nil), (5, .val .bool y0)] [])) n x.2.2.1 x.2.2.2.1 x.2.2.2.2.1 y.1 y.2.1
def LO_impl_WalkFrom_l1 (k : Nat) : LTbl := (lcons 11 (ltab sp_impl_WalkFrom_l1 (F_impl_WalkFrom_l1 k) k) (LO_impl_WalkFrom_l0 k))
theorem lk_impl_WalkFrom_l1 (k : Nat) : LoopsOK Tryd.prog glob (E_impl_stepBy k) cx_impl_WalkFrom (LO_impl_WalkFrom_l1 k) ((11, (loopB Tryd.f20 11)) :: ((4, (loopB Tryd.f20 4)) :: [])) :=
  LoopsOK.cons (lk_impl_WalkFrom_l0 k) (E_impl_stepBy_ok k).2 (F := F_impl_WalkFrom_l1 k) k [] (by kernel_rfl) (by kernel_rfl) (fun K x y => rfl) (fun n x y K => by kernel_rfl)
def F_impl_WalkFrom (k : Nat) : FArg (.c (.val (.st (.pair (.int .i64) (.int .i64)))) (.c (.val (.sl (.int .i64))) .e)) := fun x K => impl_WalkFrom k x.1 x.2.1 (fun (r0 : List (Int × Int)) (r1 : Bool) => K [⟨(.sl (.st (.pair (.int .i64) (.int .i64)))), r0, true⟩, ⟨.bool, r1, true⟩])
theorem s_impl_WalkFrom (k : Nat) : SoundF Tryd.prog glob 20 (ftab (.c (.val (.st (.pair (.int .i64) (.int .i64)))) (.c (.val (.sl (.int .i64))) .e)) (F_impl_WalkFrom k)) :=
  fun_ok (cx := cx_impl_WalkFrom) (by kernel_rfl) ⟨types, (E_impl_stepBy_ok k).1, (E_impl_stepBy_ok k).2, mixed, rfl⟩ Tryd.func20 rfl (lk_impl_WalkFrom_l1 k) [1, 0] (by kernel_rfl) (fun x K => by kernel_rfl)
def E_impl_WalkFrom (k : Nat) : Tbl := tcons 20 (ftab (.c (.val (.st (.pair (.int .i64) (.int .i64)))) (.c (.val (.sl (.int .i64))) .e)) (F_impl_WalkFrom k)) (E_impl_stepBy k)
theorem E_impl_WalkFrom_ok (k : Nat) : SoundE Tryd.prog glob (E_impl_WalkFrom k) ∧ NatE (E_impl_WalkFrom k) := tab_cons (s_impl_WalkFrom k) (E_impl_stepBy_ok k)
/-- laws.eqHex -/
def cx_laws_eqHex : Cx := { N := 15, G := glob, C := tys, ad := fun d => false, wk := false }
def F_laws_eqHex (k : Nat) : FArg (.c (.val (.st (.pair (.int .i64) (.int .i64)))) (.c (.val (.st (.pair (.int .i64) (.int .i64)))) .e)) := fun x K => laws_eqHex x.1 x.2.1 (fun (r0 : Bool) => K [⟨.bool, r0, true⟩])
theorem s_laws_eqHex (k : Nat) : SoundF Tryd.prog glob 12 (ftab (.c (.val (.st (.pair (.int .i64) (.int .i64)))) (.c (.val (.st (.pair (.int .i64) (.int .i64)))) .e)) (F_laws_eqHex k)) :=
  fun_ok (cx := cx_laws_eqHex) (by kernel_rfl) ⟨types, (E_impl_WalkFrom_ok k).1, (E_impl_WalkFrom_ok k).2, mixed, rfl⟩ Tryd.func12 rfl (LoopsOK.nil) [] (by kernel_rfl) (fun x K => by kernel_rfl)
def E_laws_eqHex (k : Nat) : Tbl := tcons 12 (ftab (.c (.val (.st (.pair (.int .i64) (.int .i64)))) (.c (.val (.st (.pair (.int .i64) (.int .i64)))) .e)) (F_laws_eqHex k)) (E_impl_WalkFrom k)
theorem E_laws_eqHex_ok (k : Nat) : SoundE Tryd.prog glob (E_laws_eqHex k) ∧ NatE (E_laws_eqHex k) := tab_cons (s_laws_eqHex k) (E_impl_WalkFrom_ok k)
/-- laws.eqHexS -/
def cx_laws_eqHexS : Cx := { N := 27, G := glob, C := tys, ad := fun d => false, wk := false }
def sp_laws_eqHexS_l0 : LSp where
  cv := []
  ts := [(0, .val (.sl (.st (.pair (.int .i64) (.int .i64))))), (1, .val (.sl (.st (.pair (.int .i64) (.int .i64))))), (5, .val (.int .i64))]
  ids := []
  tx := fun e => match e with | .exit i => bif Nat.beq i 0 then [] else [] | .ret => [4] | .normal => []
  ix := fun e => match e with | .exit i => bif Nat.beq i 0 then [] else [] | .ret => [] | .normal => []
def F_laws_eqHexS_l0 (k : Nat) : LArg sp_laws_eqHexS_l0 := fun K n x y => laws_eqHexS_l0 k (K (.exit 0) (mkSt [] [])) (fun (y0 : Bool) => K (.ret) (mkSt [(4, .val .bool y0)] [])) n x.1 x.2.1 x.2.2.1
def LO_laws_eqHexS_l0 (k : Nat) : LTbl := (lcons 4 (ltab sp_laws_eqHexS_l0 (F_laws_eqHexS_l0 k) k) lnil)
theorem lk_laws_eqHexS_l0 (k : Nat) : LoopsOK Tryd.prog glob (E_laws_eqHex k) cx_laws_eqHexS (LO_laws_eqHexS_l0 k) ((4, (loopB Tryd.f15 4)) :: []) :=
  LoopsOK.cons (LoopsOK.nil) (E_laws_eqHex_ok k).2 (F := F_laws_eqHexS_l0 k) k [] (by kernel_rfl) (by kernel_rfl) (fun K x y => rfl) (fun n x y K => by kernel_rfl)
def F_laws_eqHexS (k : Nat) : FArg (.c (.val (.sl (.st (.pair (.int .i64) (.int .i64))))) (.c (.val (.sl (.st (.pair (.int .i64) (.int .i64))))) .e)) := fun x K => laws_eqHexS k x.1 x.2.1 (fun (r0 : Bool) => K [⟨.bool, r0, true⟩])
theorem s_laws_eqHexS (k : Nat) : SoundF Tryd.prog glob 15 (ftab (.c (.val (.sl (.st (.pair (.int .i64) (.int .i64))))) (.c (.val (.sl (.st (.pair (.int .i64) (.int .i64))))) .e)) (F_laws_eqHexS k)) :=
  fun_ok (cx := cx_laws_eqHexS) (by kernel_rfl) ⟨types, (E_laws_eqHex_ok k).1, (E_laws_eqHex_ok k).2, mixed, rfl⟩ Tryd.func15 rfl (lk_laws_eqHexS_l0 k) [0] (by kernel_rfl) (fun x K => by kernel_rfl)
def E_laws_eqHexS (k : Nat) : Tbl := tcons 15 (ftab (.c (.val (.sl (.st (.pair (.int .i64) (.int .i64))))) (.c (.val (.sl (.st (.pair (.int .i64) (.int .i64))))) .e)) (F_laws_eqHexS k)) (E_laws_eqHex k)
theorem E_laws_eqHexS_ok (k : Nat) : SoundE Tryd.prog glob (E_laws_eqHexS k) ∧ NatE (E_laws_eqHexS k) := tab_cons (s_laws_eqHexS k) (E_laws_eqHex_ok k)
/-- laws.eqIntS -/
def cx_laws_eqIntS : Cx := { N := 26, G := glob, C := tys, ad := fun d => false, wk := false }
def sp_laws_eqIntS_l0 : LSp where
  cv := []
  ts := [(0, .val (.sl (.int .i64))), (1, .val (.sl (.int .i64))), (5, .val (.int .i64))]
  ids := []
  tx := fun e => match e with | .exit i => bif Nat.beq i 0 then [] else [] | .ret => [4] | .normal => []
  ix := fun e => match e with | .exit i => bif Nat.beq i 0 then [] else [] | .ret => [] | .normal => []
def F_laws_eqIntS_l0 (k : Nat) : LArg sp_laws_eqIntS_l0 := fun K n x y => laws_eqIntS_l0 k (K (.exit 0) (mkSt [] [])) (fun (y0 : Bool) => K (.ret) (mkSt [(4, .val .bool y0)] [])) n x.1 x.2.1 x.2.2.1
def LO_laws_eqIntS_l0 (k : Nat) : LTbl := (lcons 4 (ltab sp_laws_eqIntS_l0 (F_laws_eqIntS_l0 k) k) lnil)
theorem lk_laws_eqIntS_l0 (k : Nat) : LoopsOK Tryd.prog glob (E_laws_eqHexS k) cx_laws_eqIntS (LO_laws_eqIntS_l0 k) ((4, (loopB Tryd.f21 4)) :: []) :=
  LoopsOK.cons (LoopsOK.nil) (E_laws_eqHexS_ok k).2 (F := F_laws_eqIntS_l0 k) k [] (by kernel_rfl) (by kernel_rfl) (fun K x y => rfl) (fun n x y K => by kernel_rfl)
def F_laws_eqIntS (k : Nat) : FArg (.c (.val (.sl (.int .i64))) (.c (.val (.sl (.int .i64))) .e)) := fun x K => laws_eqIntS k x.1 x.2.1 (fun (r0 : Bool) => K [⟨.bool, r0, true⟩])
theorem s_laws_eqIntS (k : Nat) : SoundF Tryd.prog glob 21 (ftab (.c (.val (.sl (.int .i64))) (.c (.val (.sl (.int .i64))) .e)) (F_laws_eqIntS k)) :=
  fun_ok (cx := cx_laws_eqIntS) (by kernel_rfl) ⟨types, (E_laws_eqHexS_ok k).1, (E_laws_eqHexS_ok k).2, mixed, rfl⟩ Tryd.func21 rfl (lk_laws_eqIntS_l0 k) [0] (by kernel_rfl) (fun x K => by kernel_rfl)
def E_laws_eqIntS (k : Nat) : Tbl := tcons 21 (ftab (.c (.val (.sl (.int .i64))) (.c (.val (.sl (.int .i64))) .e)) (F_laws_eqIntS k)) (E_laws_eqHexS k)
theorem E_laws_eqIntS_ok (k : Nat) : SoundE Tryd.prog glob (E_laws_eqIntS k) ∧ NatE (E_laws_eqIntS k) := tab_cons (s_laws_eqIntS k) (E_laws_eqHexS_ok k)
/-- laws.markIntS -/
def cx_laws_markIntS_in : Cx := { N := 19, G := glob, C := tys, ad := fun d => false, wk := true }
def sp_laws_markIntS_in_l0 : LSp where
  cv := []
  ts := [(0, .own 3000000), (1, .val (.int .i64)), (5, .val (.int .i64))]
  ids := [(3000000, .row (.int .i64))]
  tx := fun e => match e with | .exit i => bif Nat.beq i 0 then [1] else [] | .ret => [] | .normal => []
  ix := fun e => match e with | .exit i => bif Nat.beq i 0 then [3000000] else [] | .ret => [] | .normal => []
def F_laws_markIntS_in_l0 (k : Nat) : LArg sp_laws_markIntS_in_l0 := fun K n x y => laws_markIntS_in_l0 k (fun (y0 : Int) (y1 : List Int) => K (.exit 0) (mkSt [(1, .val (.int .i64) y0)] [(3000000, some (.row (.int .i64) y1))])) n x.2.1 x.2.2.1 y.1
def LO_laws_markIntS_in_l0 (k : Nat) : LTbl := (lcons 2 (ltab sp_laws_markIntS_in_l0 (F_laws_markIntS_in_l0 k) k) lnil)
theorem lk_laws_markIntS_in_l0 (k : Nat) : LoopsOK Tryd.prog glob (E_laws_eqIntS k) cx_laws_markIntS_in (LO_laws_markIntS_in_l0 k) ((2, (loopB Tryd.f22 2)) :: []) :=
  LoopsOK.cons (LoopsOK.nil) (E_laws_eqIntS_ok k).2 (F := F_laws_markIntS_in_l0 k) k [] (by kernel_rfl) (by kernel_rfl) (fun K x y => rfl) (fun n x y K => by kernel_rfl)
def F_laws_markIntS_in (k : Nat) : FArg (.c (.val (.sl (.int .i64))) (.c (.val (.int .i64)) .e)) := fun x K => laws_markIntS_in k x.1 x.2.1 (fun (r0 : List Int) (r1 : Int) => K [⟨(.sl (.int .i64)), r0, false⟩, ⟨(.int .i64), r1, true⟩])
theorem s_laws_markIntS_in (k : Nat) : SoundI Tryd.prog glob 22 1 (ftab (.c (.val (.sl (.int .i64))) (.c (.val (.int .i64)) .e)) (F_laws_markIntS_in k)) :=
  funI_ok (m := 1) (cx := cx_laws_markIntS_in) (by kernel_rfl) ⟨types, (E_laws_eqIntS_ok k).1, (E_laws_eqIntS_ok k).2, mixed, rfl⟩ Tryd.func22 rfl (lk_laws_markIntS_in_l0 k) [0] (by kernel_rfl) (fun x K => by kernel_rfl)
def E_laws_markIntS_in (k : Nat) : Tbl := tcons (22 + 1000000 * 1) (ftab (.c (.val (.sl (.int .i64))) (.c (.val (.int .i64)) .e)) (F_laws_markIntS_in k)) (E_laws_eqIntS k)
theorem E_laws_markIntS_in_ok (k : Nat) : SoundE Tryd.prog glob (E_laws_markIntS_in k) ∧ NatE (E_laws_markIntS_in k) := tab_consI (by decide) (s_laws_markIntS_in k) (E_laws_eqIntS_ok k)
/-- laws.markHexS -/
def cx_laws_markHexS_in : Cx := { N := 27, G := glob, C := tys, ad := fun d => false, wk := true }
def sp_laws_markHexS_in_l0 : LSp where
  cv := []
  ts := [(0, .own 3000000), (1, .val (.int .i64)), (5, .val (.int .i64))]
  ids := [(3000000, .row (.st (.pair (.int .i64) (.int .i64))))]
  tx := fun e => match e with | .exit i => bif Nat.beq i 0 then [1] else [] | .ret => [] | .normal => []
  ix := fun e => match e with | .exit i => bif Nat.beq i 0 then [3000000] else [] | .ret => [] | .normal => []
def F_laws_markHexS_in_l0 (k : Nat) : LArg sp_laws_markHexS_in_l0 := fun K n x y => laws_markHexS_in_l0 k (fun (y0 : Int) (y1 : List (Int × Int)) => K (.exit 0) (mkSt [(1, .val (.int .i64) y0)] [(3000000, some (.row (.st (.pair (.int .i64) (.int .i64))) y1))])) n x.2.1 x.2.2.1 y.1
def LO_laws_markHexS_in_l0 (k : Nat) : LTbl := (lcons 2 (ltab sp_laws_markHexS_in_l0 (F_laws_markHexS_in_l0 k) k) lnil)
theorem lk_laws_markHexS_in_l0 (k : Nat) : LoopsOK Tryd.prog glob (E_laws_markIntS_in k) cx_laws_markHexS_in (LO_laws_markHexS_in_l0 k) ((2, (loopB Tryd.f16 2)) :: []) :=
  LoopsOK.cons (LoopsOK.nil) (E_laws_markIntS_in_ok k).2 (F := F_laws_markHexS_in_l0 k) k [] (by kernel_rfl) (by kernel_rfl) (fun K x y => rfl) (fun n x y K => by kernel_rfl)
def F_laws_markHexS_in (k : Nat) : FArg (.c (.val (.sl (.st (.pair (.int .i64) (.int .i64))))) (.c (.val (.int .i64)) .e)) := fun x K => laws_markHexS_in k x.1 x.2.1 (fun (r0 : List (Int × Int)) (r1 : Int) => K [⟨(.sl (.st (.pair (.int .i64) (.int .i64)))), r0, false⟩, ⟨(.int .i64), r1, true⟩])
theorem s_laws_markHexS_in (k : Nat) : SoundI Tryd.prog glob 16 1 (ftab (.c (.val (.sl (.st (.pair (.int .i64) (.int .i64))))) (.c (.val (.int .i64)) .e)) (F_laws_markHexS_in k)) :=
  funI_ok (m := 1) (cx := cx_laws_markHexS_in) (by kernel_rfl) ⟨types, (E_laws_markIntS_in_ok k).1, (E_laws_markIntS_in_ok k).2, mixed, rfl⟩ Tryd.func16 rfl (lk_laws_markHexS_in_l0 k) [0] (by kernel_rfl) (fun x K => by kernel_rfl)
def E_laws_markHexS_in (k : Nat) : Tbl := tcons (16 + 1000000 * 1) (ftab (.c (.val (.sl (.st (.pair (.int .i64) (.int .i64))))) (.c (.val (.int .i64)) .e)) (F_laws_markHexS_in k)) (E_laws_markIntS_in k)
theorem E_laws_markHexS_in_ok (k : Nat) : SoundE Tryd.prog glob (E_laws_markHexS_in k) ∧ NatE (E_laws_markHexS_in k) := tab_consI (by decide) (s_laws_markHexS_in k) (E_laws_markIntS_in_ok k)
/-- laws.heldHexS -/
def cx_laws_heldHexS : Cx := { N := 31, G := glob, C := tys, ad := fun d => false, wk := false }
def sp_laws_heldHexS_l0 : LSp where
  cv := []
  ts := [(0, .val (.sl (.st (.pair (.int .i64) (.int .i64))))), (1, .val (.int .i64)), (5, .val (.int .i64))]
  ids := []
  tx := fun e => match e with | .exit i => bif Nat.beq i 0 then [1] else [] | .ret => [4] | .normal => []
  ix := fun e => match e with | .exit i => bif Nat.beq i 0 then [] else [] | .ret => [] | .normal => []
def F_laws_heldHexS_l0 (k : Nat) : LArg sp_laws_heldHexS_l0 := fun K n x y => laws_heldHexS_l0 k (fun (y0 : Int) => K (.exit 0) (mkSt [(1, .val (.int .i64) y0)] [])) (fun (y0 : Int) => K (.ret) (mkSt [(4, .val (.int .i64) y0)] [])) n x.1 x.2.1 x.2.2.1
def LO_laws_heldHexS_l0 (k : Nat) : LTbl := (lcons 2 (ltab sp_laws_heldHexS_l0 (F_laws_heldHexS_l0 k) k) lnil)
theorem lk_laws_heldHexS_l0 (k : Nat) : LoopsOK Tryd.prog glob (E_laws_markHexS_in k) cx_laws_heldHexS (LO_laws_heldHexS_l0 k) ((2, (loopB Tryd.f17 2)) :: []) :=
  LoopsOK.cons (LoopsOK.nil) (E_laws_markHexS_in_ok k).2 (F := F_laws_heldHexS_l0 k) k [] (by kernel_rfl) (by kernel_rfl) (fun K x y => rfl) (fun n x y K => by kernel_rfl)
def F_laws_heldHexS (k : Nat) : FArg (.c (.val (.sl (.st (.pair (.int .i64) (.int .i64))))) (.c (.val (.int .i64)) .e)) := fun x K => laws_heldHexS k x.1 x.2.1 (fun (r0 : Int) => K [⟨(.int .i64), r0, true⟩])
theorem s_laws_heldHexS (k : Nat) : SoundF Tryd.prog glob 17 (ftab (.c (.val (.sl (.st (.pair (.int .i64) (.int .i64))))) (.c (.val (.int .i64)) .e)) (F_laws_heldHexS k)) :=
  fun_ok (cx := cx_laws_heldHexS) (by kernel_rfl) ⟨types, (E_laws_markHexS_in_ok k).1, (E_laws_markHexS_in_ok k).2, mixed, rfl⟩ Tryd.func17 rfl (lk_laws_heldHexS_l0 k) [0] (by kernel_rfl) (fun x K => by kernel_rfl)
def E_laws_heldHexS (k : Nat) : Tbl := tcons 17 (ftab (.c (.val (.sl (.st (.pair (.int .i64) (.int .i64))))) (.c (.val (.int .i64)) .e)) (F_laws_heldHexS k)) (E_laws_markHexS_in k)
theorem E_laws_heldHexS_ok (k : Nat) : SoundE Tryd.prog glob (E_laws_heldHexS k) ∧ NatE (E_laws_heldHexS k) := tab_cons (s_laws_heldHexS k) (E_laws_markHexS_in_ok k)
/-- laws.FnExactWalkFrom -/
def cx_laws_FnExactWalkFrom : Cx := { N := 101, G := glob, C := tys, ad := fun d => Nat.beq d 20 || Nat.beq d 22 || Nat.beq d 23 || Nat.beq d 27 || Nat.beq d 30 || Nat.beq d 32 || Nat.beq d 37 || Nat.beq d 46 || Nat.beq d 47 || Nat.beq d 57 || Nat.beq d 70 || Nat.beq d 78 || Nat.beq d 80 || Nat.beq d 81 || Nat.beq d 86 || Nat.beq d 95, wk := false, ip := fun d => bif Nat.beq d 22 then 1 else bif Nat.beq d 16 then 1 else 0 }
def F_laws_FnExactWalkFrom (k : Nat) : FArg (.c (.val (.st (.pair (.int .i64) (.int .i64)))) (.c (.val (.sl (.int .i64))) .e)) := fun x K => laws_FnExactWalkFrom k x.1 x.2.1 (fun (r0 : Bool) => K [⟨.bool, r0, true⟩])
theorem q_laws_FnExactWalkFrom (k : Nat) (c0 : (Int × Int) → ∀ {R : Type}, ((Int × Int) → Option R) → Option R) (c1 : (List Int) → ∀ {R : Type}, ((List Int) → Option R) → Option R) (c2 : (Int × Int) → (List Int) → ∀ {R : Type}, ((List (Int × Int)) → Bool → Option R) → Option R) (c3 : (Int × Int) → (List Int) → ∀ {R : Type}, ((List (Int × Int)) → Bool → Option R) → Option R) (c4 : (List (Int × Int)) → (List (Int × Int)) → ∀ {R : Type}, (Bool → Option R) → Option R) (c5 : (List Int) → (List Int) → ∀ {R : Type}, (Bool → Option R) → Option R) (c6 : (List Int) → Int → ∀ {R : Type}, ((List Int) → Int → Option R) → Option R) (c7 : (List (Int × Int)) → Int → ∀ {R : Type}, ((List (Int × Int)) → Int → Option R) → Option R) (c8 : (List (Int × Int)) → Int → ∀ {R : Type}, (Int → Option R) → Option R) {R : Type} (x : ((.c (.val (.st (.pair (.int .i64) (.int .i64)))) (.c (.val (.sl (.int .i64))) .e)) : Sh).den) (K : List Res → Option R) : (fun (x : Int × Int) (x0 : List Int) (K : Bool → Option R) =>
    bif decide ((1048576 : Int) < ((List.length x0 : Nat) : Int)) then
      K true
    else
      c0 x fun (r : Int × Int) =>
      c1 x0 fun (r0 : List Int) =>
      c2 r r0 fun (r1 : List (Int × Int)) (r2 : Bool) =>
      c1 x0 fun (r3 : List Int) =>
      c0 x fun (r4 : Int × Int) =>
      c3 r4 r3 fun (r5 : List (Int × Int)) (r6 : Bool) =>
      c4 r5 r1 fun (r7 : Bool) =>
      bif !r7 then
        K false
      else
        bif !(r6 == r2) then
          K false
        else
          c1 x0 fun (r8 : List Int) =>
          c5 r3 r8 fun (r9 : Bool) =>
          bif !r9 then
            K false
          else
            c6 r3 (1 : Int) fun (t : List Int) (r10 : Int) =>
            bif decide (r10 < (0 : Int)) then
              K false
            else
              c4 r5 r1 fun (r11 : Bool) =>
              bif !r11 then
                K false
              else
                bif !(r6 == r2) then
                  K false
                else
                  c7 r5 (1 : Int) fun (t0 : List (Int × Int)) (r12 : Int) =>
                  c8 t0 (1 : Int) fun (r13 : Int) =>
                  bif decide (r13 < (0 : Int)) then
                    K false
                  else
                    bif !(decide (r13 = r12)) then
                      K false
                    else
                      c0 x fun (r14 : Int × Int) =>
                      c1 x0 fun (r15 : List Int) =>
                      c3 r14 r15 fun (r16 : List (Int × Int)) (r17 : Bool) =>
                      c4 r16 r1 fun (r18 : Bool) =>
                      bif !r18 then
                        K false
                      else
                        bif !(r17 == r2) then
                          K false
                        else
                          c8 t0 (1 : Int) fun (r19 : Int) =>
                          bif decide (r19 < (0 : Int)) then
                            K false
                          else
                            bif !(decide (r19 = r12)) then
                              K false
                            else
                              K true) x.1 x.2.1 (fun (r0 : Bool) => K [⟨.bool, r0, true⟩]) = evFun ((tcons 8 (ftab (.c (.val (.st (.pair (.int .i64) (.int .i64)))) .e) fun x K => c0 x.1 (fun (r0 : Int × Int) => K [⟨(.st (.pair (.int .i64) (.int .i64))), r0, true⟩])) (tcons 19 (ftab (.c (.val (.sl (.int .i64))) .e) fun x K => c1 x.1 (fun (r0 : List Int) => K [⟨(.sl (.int .i64)), r0, true⟩])) (tcons 18 (ftab (.c (.val (.st (.pair (.int .i64) (.int .i64)))) (.c (.val (.sl (.int .i64))) .e)) fun x K => c2 x.1 x.2.1 (fun (r0 : List (Int × Int)) (r1 : Bool) => K [⟨(.sl (.st (.pair (.int .i64) (.int .i64)))), r0, false⟩, ⟨.bool, r1, true⟩])) (tcons 20 (ftab (.c (.val (.st (.pair (.int .i64) (.int .i64)))) (.c (.val (.sl (.int .i64))) .e)) fun x K => c3 x.1 x.2.1 (fun (r0 : List (Int × Int)) (r1 : Bool) => K [⟨(.sl (.st (.pair (.int .i64) (.int .i64)))), r0, true⟩, ⟨.bool, r1, true⟩])) (tcons 15 (ftab (.c (.val (.sl (.st (.pair (.int .i64) (.int .i64))))) (.c (.val (.sl (.st (.pair (.int .i64) (.int .i64))))) .e)) fun x K => c4 x.1 x.2.1 (fun (r0 : Bool) => K [⟨.bool, r0, true⟩])) (tcons 21 (ftab (.c (.val (.sl (.int .i64))) (.c (.val (.sl (.int .i64))) .e)) fun x K => c5 x.1 x.2.1 (fun (r0 : Bool) => K [⟨.bool, r0, true⟩])) (tcons (22 + 1000000 * 1) (ftab (.c (.val (.sl (.int .i64))) (.c (.val (.int .i64)) .e)) fun x K => c6 x.1 x.2.1 (fun (r0 : List Int) (r1 : Int) => K [⟨(.sl (.int .i64)), r0, false⟩, ⟨(.int .i64), r1, true⟩])) (tcons (16 + 1000000 * 1) (ftab (.c (.val (.sl (.st (.pair (.int .i64) (.int .i64))))) (.c (.val (.int .i64)) .e)) fun x K => c7 x.1 x.2.1 (fun (r0 : List (Int × Int)) (r1 : Int) => K [⟨(.sl (.st (.pair (.int .i64) (.int .i64)))), r0, false⟩, ⟨(.int .i64), r1, true⟩])) (tcons 17 (ftab (.c (.val (.sl (.st (.pair (.int .i64) (.int .i64))))) (.c (.val (.int .i64)) .e)) fun x K => c8 x.1 x.2.1 (fun (r0 : Int) => K [⟨(.int .i64), r0, true⟩])) tnil)))))))))) lnil cx_laws_FnExactWalkFrom Tryd.f6 (give (.c (.val (.st (.pair (.int .i64) (.int .i64)))) (.c (.val (.sl (.int .i64))) .e)) x) K := by kernel_rfl
theorem e_laws_FnExactWalkFrom (k : Nat) : SoundE Tryd.prog glob (tcons 8 (ftab (.c (.val (.st (.pair (.int .i64) (.int .i64)))) .e) (F_laws_toHex k)) (tcons 19 (ftab (.c (.val (.sl (.int .i64))) .e) (F_laws_toIntS k)) (tcons 18 (ftab (.c (.val (.st (.pair (.int .i64) (.int .i64)))) (.c (.val (.sl (.int .i64))) .e)) (F_spec_WalkFrom k)) (tcons 20 (ftab (.c (.val (.st (.pair (.int .i64) (.int .i64)))) (.c (.val (.sl (.int .i64))) .e)) (F_impl_WalkFrom k)) (tcons 15 (ftab (.c (.val (.sl (.st (.pair (.int .i64) (.int .i64))))) (.c (.val (.sl (.st (.pair (.int .i64) (.int .i64))))) .e)) (F_laws_eqHexS k)) (tcons 21 (ftab (.c (.val (.sl (.int .i64))) (.c (.val (.sl (.int .i64))) .e)) (F_laws_eqIntS k)) (tcons (22 + 1000000 * 1) (ftab (.c (.val (.sl (.int .i64))) (.c (.val (.int .i64)) .e)) (F_laws_markIntS_in k)) (tcons (16 + 1000000 * 1) (ftab (.c (.val (.sl (.st (.pair (.int .i64) (.int .i64))))) (.c (.val (.int .i64)) .e)) (F_laws_markHexS_in k)) (tcons 17 (ftab (.c (.val (.sl (.st (.pair (.int .i64) (.int .i64))))) (.c (.val (.int .i64)) .e)) (F_laws_heldHexS k)) tnil))))))))) ∧ NatE (tcons 8 (ftab (.c (.val (.st (.pair (.int .i64) (.int .i64)))) .e) (F_laws_toHex k)) (tcons 19 (ftab (.c (.val (.sl (.int .i64))) .e) (F_laws_toIntS k)) (tcons 18 (ftab (.c (.val (.st (.pair (.int .i64) (.int .i64)))) (.c (.val (.sl (.int .i64))) .e)) (F_spec_WalkFrom k)) (tcons 20 (ftab (.c (.val (.st (.pair (.int .i64) (.int .i64)))) (.c (.val (.sl (.int .i64))) .e)) (F_impl_WalkFrom k)) (tcons 15 (ftab (.c (.val (.sl (.st (.pair (.int .i64) (.int .i64))))) (.c (.val (.sl (.st (.pair (.int .i64) (.int .i64))))) .e)) (F_laws_eqHexS k)) (tcons 21 (ftab (.c (.val (.sl (.int .i64))) (.c (.val (.sl (.int .i64))) .e)) (F_laws_eqIntS k)) (tcons (22 + 1000000 * 1) (ftab (.c (.val (.sl (.int .i64))) (.c (.val (.int .i64)) .e)) (F_laws_markIntS_in k)) (tcons (16 + 1000000 * 1) (ftab (.c (.val (.sl (.st (.pair (.int .i64) (.int .i64))))) (.c (.val (.int .i64)) .e)) (F_laws_markHexS_in k)) (tcons 17 (ftab (.c (.val (.sl (.st (.pair (.int .i64) (.int .i64))))) (.c (.val (.int .i64)) .e)) (F_laws_heldHexS k)) tnil))))))))) := (tab_cons (s_laws_toHex k) (tab_cons (s_laws_toIntS k) (tab_cons (s_spec_WalkFrom k) (tab_cons (s_impl_WalkFrom k) (tab_cons (s_laws_eqHexS k) (tab_cons (s_laws_eqIntS k) (tab_consI (by decide) (s_laws_markIntS_in k) (tab_consI (by decide) (s_laws_markHexS_in k) (tab_cons (s_laws_heldHexS k) e0)))))))))
theorem s_laws_FnExactWalkFrom (k : Nat) : SoundF Tryd.prog glob 6 (ftab (.c (.val (.st (.pair (.int .i64) (.int .i64)))) (.c (.val (.sl (.int .i64))) .e)) (F_laws_FnExactWalkFrom k)) :=
  fun_ok (cx := cx_laws_FnExactWalkFrom) (by kernel_rfl) ⟨types, (e_laws_FnExactWalkFrom k).1, (e_laws_FnExactWalkFrom k).2, mixed, rfl⟩ Tryd.func6 rfl (LoopsOK.nil) [] (by kernel_rfl) (fun x K => q_laws_FnExactWalkFrom k (fun a0 {_} K => laws_toHex a0 K) (fun a0 {_} K => laws_toIntS k a0 K) (fun a0 a1 {_} K => spec_WalkFrom k a0 a1 K) (fun a0 a1 {_} K => impl_WalkFrom k a0 a1 K) (fun a0 a1 {_} K => laws_eqHexS k a0 a1 K) (fun a0 a1 {_} K => laws_eqIntS k a0 a1 K) (fun a0 a1 {_} K => laws_markIntS_in k a0 a1 K) (fun a0 a1 {_} K => laws_markHexS_in k a0 a1 K) (fun a0 a1 {_} K => laws_heldHexS k a0 a1 K) x K)
def E_laws_FnExactWalkFrom (k : Nat) : Tbl := tcons 6 (ftab (.c (.val (.st (.pair (.int .i64) (.int .i64)))) (.c (.val (.sl (.int .i64))) .e)) (F_laws_FnExactWalkFrom k)) (E_laws_heldHexS k)
theorem E_laws_FnExactWalkFrom_ok (k : Nat) : SoundE Tryd.prog glob (E_laws_FnExactWalkFrom k) ∧ NatE (E_laws_FnExactWalkFrom k) := tab_cons (s_laws_FnExactWalkFrom k) (E_laws_heldHexS_ok k)
end Go.Proofs.YtpaikmmncnigkaaDoor.TieWalkFrom
