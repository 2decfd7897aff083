import Derived.Test.YtpaikmmncnigkaaDoorEv3
import Derived.Test.YtpaikmmncnigkaaDoorLgDEFTALBL
import Derived.KernelRfl
import Derived.Eval
import Derived.Test.YtpaikmmncnigkaaDoorProg
import Derived.Test.YtpaikmmncnigkaaDoorChecked
set_option linter.unusedVariables false
set_option linter.unusedSimpArgs false
set_option linter.unusedSectionVars false
set_option linter.unusedVariables false
set_option maxRecDepth 100000
namespace Go.Proofs.YtpaikmmncnigkaaDoor.TieRingOf
open Go Go.Ev Go.Lg Go.Proofs
def tys : Nat → Option Ty := lookT [(3, (.int .i64)), (4, .bool), (23, (.st (.pair (.int .i64) (.int .i64)))), (26, (.st (.pair (.int .i64) (.int .i64)))), (33, (.sl (.st (.pair (.int .i64) (.int .i64))))), (38, (.sl (.int .i64))), (46, (.arr 6 (.st (.pair (.int .i64) (.int .i64)))))]
def glob : Nat → AV := fun g => bif Nat.beq g 0 then .pval (.arr 6 (.st (.pair (.int .i64) (.int .i64)))) impl_directions else .bot
theorem types : Types Tryd.prog tys := types_of (by kernel_rfl)
theorem mixed : Tryd.prog.follows .mixedOrders = true := Checked.mixed Tryd.checked
theorem e0 : SoundE Tryd.prog glob tnil ∧ NatE tnil := ⟨tnil_sound, tnil_nat⟩
theorem tab_cons {n : Nat} {t : FFun} {E : Tbl} (h : SoundF Tryd.prog glob n t) (h2 : SoundE Tryd.prog glob E ∧ NatE E) : SoundE Tryd.prog glob (tcons n t E) ∧ NatE (tcons n t E) := ⟨tcons_sound h h2.1, tcons_nat h h2.2⟩
theorem tab_consI {n m : Nat} {t : FFun} {E : Tbl} (hm : m ≠ 0) (h : SoundI Tryd.prog glob n m t) (h2 : SoundE Tryd.prog glob E ∧ NatE E) : SoundE Tryd.prog glob (tcons (n + 1000000 * m) t E) ∧ NatE (tcons (n + 1000000 * m) t E) := ⟨tconsI_sound hm h h2.1, tconsI_nat h h2.2⟩
/-- laws.toHex -/
def cx_laws_toHex : Cx := { N := 11, G := glob, C := tys, ad := fun d => false, wk := false }
def F_laws_toHex (k : Nat) : FArg (.c (.val (.st (.pair (.int .i64) (.int .i64)))) .e) := fun x K => laws_toHex x.1 (fun (r0 : Int × Int) => K [⟨(.st (.pair (.int .i64) (.int .i64))), r0, true⟩])
theorem s_laws_toHex (k : Nat) : SoundF Tryd.prog glob 8 (ftab (.c (.val (.st (.pair (.int .i64) (.int .i64)))) .e) (F_laws_toHex k)) :=
  fun_ok (cx := cx_laws_toHex) (by kernel_rfl) ⟨types, (e0).1, (e0).2, mixed, rfl⟩ Tryd.func8 rfl (LoopsOK.nil) [] (by kernel_rfl) (fun x K => by kernel_rfl)
def E_laws_toHex (k : Nat) : Tbl := tcons 8 (ftab (.c (.val (.st (.pair (.int .i64) (.int .i64)))) .e) (F_laws_toHex k)) (tnil)
theorem E_laws_toHex_ok (k : Nat) : SoundE Tryd.prog glob (E_laws_toHex k) ∧ NatE (E_laws_toHex k) := tab_cons (s_laws_toHex k) (e0)
/-- spec.l1In -/
def cx_spec_l1In : Cx := { N := 15, G := glob, C := tys, ad := fun d => false, wk := false }
def F_spec_l1In (k : Nat) : FArg (.c (.val (.int .i64)) (.c (.val (.int .i64)) (.c (.val (.int .i64)) .e))) := fun x K => spec_l1In x.1 x.2.1 x.2.2.1 (fun (r0 : Bool) => K [⟨.bool, r0, true⟩])
theorem s_spec_l1In (k : Nat) : SoundF Tryd.prog glob 27 (ftab (.c (.val (.int .i64)) (.c (.val (.int .i64)) (.c (.val (.int .i64)) .e))) (F_spec_l1In k)) :=
  fun_ok (cx := cx_spec_l1In) (by kernel_rfl) ⟨types, (E_laws_toHex_ok k).1, (E_laws_toHex_ok k).2, mixed, rfl⟩ Tryd.func27 rfl (LoopsOK.nil) [] (by kernel_rfl) (fun x K => by kernel_rfl)
def E_spec_l1In (k : Nat) : Tbl := tcons 27 (ftab (.c (.val (.int .i64)) (.c (.val (.int .i64)) (.c (.val (.int .i64)) .e))) (F_spec_l1In k)) (E_laws_toHex k)
theorem E_spec_l1In_ok (k : Nat) : SoundE Tryd.prog glob (E_spec_l1In k) ∧ NatE (E_spec_l1In k) := tab_cons (s_spec_l1In k) (E_laws_toHex_ok k)
/-- spec.hGood -/
def cx_spec_hGood : Cx := { N := 11, G := glob, C := tys, ad := fun d => false, wk := false }
def F_spec_hGood (k : Nat) : FArg (.c (.val (.st (.pair (.int .i64) (.int .i64)))) .e) := fun x K => spec_hGood x.1 (fun (r0 : Bool) => K [⟨.bool, r0, true⟩])
theorem s_spec_hGood (k : Nat) : SoundF Tryd.prog glob 23 (ftab (.c (.val (.st (.pair (.int .i64) (.int .i64)))) .e) (F_spec_hGood k)) :=
  fun_ok (cx := cx_spec_hGood) (by kernel_rfl) ⟨types, (E_spec_l1In_ok k).1, (E_spec_l1In_ok k).2, mixed, rfl⟩ Tryd.func23 rfl (LoopsOK.nil) [] (by kernel_rfl) (fun x K => by kernel_rfl)
def E_spec_hGood (k : Nat) : Tbl := tcons 23 (ftab (.c (.val (.st (.pair (.int .i64) (.int .i64)))) .e) (F_spec_hGood k)) (E_spec_l1In k)
theorem E_spec_hGood_ok (k : Nat) : SoundE Tryd.prog glob (E_spec_hGood k) ∧ NatE (E_spec_hGood k) := tab_cons (s_spec_hGood k) (E_spec_l1In_ok k)
/-- spec.hStep -/
def cx_spec_hStep : Cx := { N := 20, G := glob, C := tys, ad := fun d => false, wk := false }
def F_spec_hStep (k : Nat) : FArg (.c (.val (.st (.pair (.int .i64) (.int .i64)))) (.c (.val (.int .i64)) .e)) := fun x K => spec_hStep x.1 x.2.1 (fun (r0 : Int × Int) => K [⟨(.st (.pair (.int .i64) (.int .i64))), r0, true⟩])
theorem s_spec_hStep (k : Nat) : SoundF Tryd.prog glob 24 (ftab (.c (.val (.st (.pair (.int .i64) (.int .i64)))) (.c (.val (.int .i64)) .e)) (F_spec_hStep k)) :=
  fun_ok (cx := cx_spec_hStep) (by kernel_rfl) ⟨types, (E_spec_hGood_ok k).1, (E_spec_hGood_ok k).2, mixed, rfl⟩ Tryd.func24 rfl (LoopsOK.nil) [] (by kernel_rfl) (fun x K => by kernel_rfl)
def E_spec_hStep (k : Nat) : Tbl := tcons 24 (ftab (.c (.val (.st (.pair (.int .i64) (.int .i64)))) (.c (.val (.int .i64)) .e)) (F_spec_hStep k)) (E_spec_hGood k)
theorem E_spec_hStep_ok (k : Nat) : SoundE Tryd.prog glob (E_spec_hStep k) ∧ NatE (E_spec_hStep k) := tab_cons (s_spec_hStep k) (E_spec_hGood_ok k)
/-- spec.hRing -/
def cx_spec_hRing : Cx := { N := 37, G := glob, C := tys, ad := fun d => false, wk := false }
def sp_spec_hRing_l0 : LSp where
  cv := []
  ts := [(1, .val (.int .i64)), (2, .ptr 2), (5, .val (.int .i64))]
  ids := [(2, .box (.st (.pair (.int .i64) (.int .i64))) (.val (.st (.pair (.int .i64) (.int .i64)))))]
  tx := fun e => match e with | .exit i => bif Nat.beq i 0 then [1, 2] else [] | .ret => [] | .normal => []
  ix := fun e => match e with | .exit i => bif Nat.beq i 0 then [2] else [] | .ret => [] | .normal => []
def F_spec_hRing_l0 (k : Nat) : LArg sp_spec_hRing_l0 := fun K n x y => spec_hRing_l0 k (fun (y0 : Int) (y1 : Int × Int) => K (.exit 0) (mkSt [(1, .val (.int .i64) y0), (2, .ptr 2 1 [])] [(2, some (.box (.st (.pair (.int .i64) (.int .i64))) (.val (.st (.pair (.int .i64) (.int .i64))) y1)))])) n x.1 x.2.2.1 y.1
def LO_spec_hRing_l0 (k : Nat) : LTbl := (lcons 4 (ltab sp_spec_hRing_l0 (F_spec_hRing_l0 k) k) lnil)
theorem lk_spec_hRing_l0 (k : Nat) : LoopsOK Tryd.prog glob (E_spec_hStep k) cx_spec_hRing (LO_spec_hRing_l0 k) ((4, (loopB Tryd.f32 4)) :: []) :=
  LoopsOK.cons (LoopsOK.nil) (E_spec_hStep_ok k).2 (F := F_spec_hRing_l0 k) k [] (by kernel_rfl) (by kernel_rfl) (fun K x y => rfl) (fun n x y K => by kernel_rfl)
def sp_spec_hRing_l1 : LSp where
  cv := []
  ts := [(1, .val (.int .i64)), (2, .ptr 2), (6, .own 2000006), (7, .val (.int .i64)), (8, .val (.int .i64))]
  ids := [(2, .box (.st (.pair (.int .i64) (.int .i64))) (.val (.st (.pair (.int .i64) (.int .i64))))), (2000006, .row (.st (.pair (.int .i64) (.int .i64))))]
  tx := fun e => match e with | .exit i => bif Nat.beq i 4 then [1, 2, 6, 7] else [] | .ret => [] | .normal => []
  ix := fun e => match e with | .exit i => bif Nat.beq i 4 then [2, 2000006] else [] | .ret => [] | .normal => []
def F_spec_hRing_l1 (k : Nat) : LArg sp_spec_hRing_l1 := fun K n x y => spec_hRing_l1 k (fun (y0 : Int) (y1 : Int) (y2 : Int × Int) (y3 : List (Int × Int)) => K (.exit 4) (mkSt [(1, .val (.int .i64) y0), (2, .ptr 2 1 []), (6, .own 2000006 1), (7, .val (.int .i64) y1)] [(2, some (.box (.st (.pair (.int .i64) (.int .i64))) (.val (.st (.pair (.int .i64) (.int .i64))) y2))), (2000006, some (.row (.st (.pair (.int .i64) (.int .i64))) y3))])) n x.1 x.2.2.2.1 x.2.2.2.2.1 y.1 y.2.1
def LO_spec_hRing_l1 (k : Nat) : LTbl := (lcons 12 (ltab sp_spec_hRing_l1 (F_spec_hRing_l1 k) k) (LO_spec_hRing_l0 k))
theorem lk_spec_hRing_l1 (k : Nat) : LoopsOK Tryd.prog glob (E_spec_hStep k) cx_spec_hRing (LO_spec_hRing_l1 k) ((12, (loopB Tryd.f32 12)) :: ((4, (loopB Tryd.f32 4)) :: [])) :=
  LoopsOK.cons (lk_spec_hRing_l0 k) (E_spec_hStep_ok k).2 (F := F_spec_hRing_l1 k) k [] (by kernel_rfl) (by kernel_rfl) (fun K x y => rfl) (fun n x y K => by kernel_rfl)
def sp_spec_hRing_l2 : LSp where
  cv := [(6, 2000006, (.st (.pair (.int .i64) (.int .i64))))]
  ts := [(1, .val (.int .i64)), (2, .ptr 2), (6, .own 2000006), (7, .val (.int .i64))]
  ids := [(2, .box (.st (.pair (.int .i64) (.int .i64))) (.val (.st (.pair (.int .i64) (.int .i64))))), (2000006, .row (.st (.pair (.int .i64) (.int .i64))))]
  tx := fun e => match e with | .exit i => bif Nat.beq i 2 then [6] else [] | .ret => [] | .normal => []
  ix := fun e => match e with | .exit i => bif Nat.beq i 2 then [2000006] else [] | .ret => [] | .normal => []
def F_spec_hRing_l2 (k : Nat) : LArg sp_spec_hRing_l2 := fun K n x y => spec_hRing_l2 k (fun (y0 : List (Int × Int)) => K (.exit 2) (mkSt [(6, .own 2000006 1)] [(2000006, some (.row (.st (.pair (.int .i64) (.int .i64))) y0))])) n x.1 x.2.2.2.1 y.1 y.2.1
def LO_spec_hRing_l2 (k : Nat) : LTbl := (lcons 9 (ltab sp_spec_hRing_l2 (F_spec_hRing_l2 k) k) (LO_spec_hRing_l1 k))
theorem lk_spec_hRing_l2 (k : Nat) : LoopsOK Tryd.prog glob (E_spec_hStep k) cx_spec_hRing (LO_spec_hRing_l2 k) ((9, (loopB Tryd.f32 9)) :: ((12, (loopB Tryd.f32 12)) :: ((4, (loopB Tryd.f32 4)) :: []))) :=
  LoopsOK.cons (lk_spec_hRing_l1 k) (E_spec_hStep_ok k).2 (F := F_spec_hRing_l2 k) k [0] (by kernel_rfl) (by kernel_rfl) (fun K x y => rfl) (fun n x y K => by kernel_rfl)
def F_spec_hRing (k : Nat) : FArg (.c (.val (.st (.pair (.int .i64) (.int .i64)))) (.c (.val (.int .i64)) .e)) := fun x K => spec_hRing k x.1 x.2.1 (fun (r0 : List (Int × Int)) => K [⟨(.sl (.st (.pair (.int .i64) (.int .i64)))), r0, true⟩])
theorem s_spec_hRing (k : Nat) : SoundF Tryd.prog glob 32 (ftab (.c (.val (.st (.pair (.int .i64) (.int .i64)))) (.c (.val (.int .i64)) .e)) (F_spec_hRing k)) :=
  fun_ok (cx := cx_spec_hRing) (by kernel_rfl) ⟨types, (E_spec_hStep_ok k).1, (E_spec_hStep_ok k).2, mixed, rfl⟩ Tryd.func32 rfl (lk_spec_hRing_l2 k) [2, 0] (by kernel_rfl) (fun x K => by kernel_rfl)
def E_spec_hRing (k : Nat) : Tbl := tcons 32 (ftab (.c (.val (.st (.pair (.int .i64) (.int .i64)))) (.c (.val (.int .i64)) .e)) (F_spec_hRing k)) (E_spec_hStep k)
theorem E_spec_hRing_ok (k : Nat) : SoundE Tryd.prog glob (E_spec_hRing k) ∧ NatE (E_spec_hRing k) := tab_cons (s_spec_hRing k) (E_spec_hStep_ok k)
/-- spec.hAll -/
def cx_spec_hAll : Cx := { N := 17, G := glob, C := tys, ad := fun d => false, wk := true }
def sp_spec_hAll_l0 : LSp where
  cv := []
  ts := [(0, .val (.sl (.st (.pair (.int .i64) (.int .i64))))), (6, .val (.sl (.st (.pair (.int .i64) (.int .i64))))), (7, .val (.int .i64)), (8, .val (.int .i64))]
  ids := []
  tx := fun e => match e with | .exit i => bif Nat.beq i 0 then [0] else [] | .ret => [2, 3] | .normal => []
  ix := fun e => match e with | .exit i => bif Nat.beq i 0 then [] else [] | .ret => [] | .normal => []
def F_spec_hAll_l0 (k : Nat) : LArg sp_spec_hAll_l0 := fun K n x y => spec_hAll_l0 k (fun (y0 : List (Int × Int)) => K (.exit 0) (mkSt [(0, .val (.sl (.st (.pair (.int .i64) (.int .i64)))) y0)] [])) (fun (y0 : Bool) => K (.ret) (mkSt [(2, .nil), (3, .val .bool y0)] [])) n x.1 x.2.1 x.2.2.1 x.2.2.2.1
def LO_spec_hAll_l0 (k : Nat) : LTbl := (lcons 2 (ltab sp_spec_hAll_l0 (F_spec_hAll_l0 k) k) lnil)
theorem lk_spec_hAll_l0 (k : Nat) : LoopsOK Tryd.prog glob (E_spec_hRing k) cx_spec_hAll (LO_spec_hAll_l0 k) ((2, (loopB Tryd.f31 2)) :: []) :=
  LoopsOK.cons (LoopsOK.nil) (E_spec_hRing_ok k).2 (F := F_spec_hAll_l0 k) k [] (by kernel_rfl) (by kernel_rfl) (fun K x y => rfl) (fun n x y K => by kernel_rfl)
def F_spec_hAll (k : Nat) : FArg (.c (.val (.sl (.st (.pair (.int .i64) (.int .i64))))) .e) := fun x K => spec_hAll k x.1 (fun (r0 : List (Int × Int)) (r1 : Bool) => K [⟨(.sl (.st (.pair (.int .i64) (.int .i64)))), r0, false⟩, ⟨.bool, r1, true⟩])
theorem s_spec_hAll (k : Nat) : SoundF Tryd.prog glob 31 (ftab (.c (.val (.sl (.st (.pair (.int .i64) (.int .i64))))) .e) (F_spec_hAll k)) :=
  fun_ok (cx := cx_spec_hAll) (by kernel_rfl) ⟨types, (E_spec_hRing_ok k).1, (E_spec_hRing_ok k).2, mixed, rfl⟩ Tryd.func31 rfl (lk_spec_hAll_l0 k) [0] (by kernel_rfl) (fun x K => by kernel_rfl)
def E_spec_hAll (k : Nat) : Tbl := tcons 31 (ftab (.c (.val (.sl (.st (.pair (.int .i64) (.int .i64))))) .e) (F_spec_hAll k)) (E_spec_hRing k)
theorem E_spec_hAll_ok (k : Nat) : SoundE Tryd.prog glob (E_spec_hAll k) ∧ NatE (E_spec_hAll k) := tab_cons (s_spec_hAll k) (E_spec_hRing_ok k)
/-- spec.RingOf -/
def cx_spec_RingOf : Cx := { N := 20, G := glob, C := tys, ad := fun d => false, wk := true }
def F_spec_RingOf (k : Nat) : FArg (.c (.val (.st (.pair (.int .i64) (.int .i64)))) (.c (.val (.int .i64)) .e)) := fun x K => spec_RingOf k x.1 x.2.1 (fun (r0 : List (Int × Int)) (r1 : Bool) => K [⟨(.sl (.st (.pair (.int .i64) (.int .i64)))), r0, false⟩, ⟨.bool, r1, true⟩])
theorem s_spec_RingOf (k : Nat) : SoundF Tryd.prog glob 13 (ftab (.c (.val (.st (.pair (.int .i64) (.int .i64)))) (.c (.val (.int .i64)) .e)) (F_spec_RingOf k)) :=
  fun_ok (cx := cx_spec_RingOf) (by kernel_rfl) ⟨types, (E_spec_hAll_ok k).1, (E_spec_hAll_ok k).2, mixed, rfl⟩ Tryd.func13 rfl (LoopsOK.nil) [] (by kernel_rfl) (fun x K => by kernel_rfl)
def E_spec_RingOf (k : Nat) : Tbl := tcons 13 (ftab (.c (.val (.st (.pair (.int .i64) (.int .i64)))) (.c (.val (.int .i64)) .e)) (F_spec_RingOf k)) (E_spec_hAll k)
theorem E_spec_RingOf_ok (k : Nat) : SoundE Tryd.prog glob (E_spec_RingOf k) ∧ NatE (E_spec_RingOf k) := tab_cons (s_spec_RingOf k) (E_spec_hAll_ok k)
/-- impl.inRange -/
def cx_impl_inRange : Cx := { N := 15, G := glob, C := tys, ad := fun d => false, wk := false }
def F_impl_inRange (k : Nat) : FArg (.c (.val (.int .i64)) (.c (.val (.int .i64)) (.c (.val (.int .i64)) .e))) := fun x K => impl_inRange x.1 x.2.1 x.2.2.1 (fun (r0 : Bool) => K [⟨.bool, r0, true⟩])
theorem s_impl_inRange (k : Nat) : SoundF Tryd.prog glob 33 (ftab (.c (.val (.int .i64)) (.c (.val (.int .i64)) (.c (.val (.int .i64)) .e))) (F_impl_inRange k)) :=
  fun_ok (cx := cx_impl_inRange) (by kernel_rfl) ⟨types, (E_spec_RingOf_ok k).1, (E_spec_RingOf_ok k).2, mixed, rfl⟩ Tryd.func33 rfl (LoopsOK.nil) [] (by kernel_rfl) (fun x K => by kernel_rfl)
def E_impl_inRange (k : Nat) : Tbl := tcons 33 (ftab (.c (.val (.int .i64)) (.c (.val (.int .i64)) (.c (.val (.int .i64)) .e))) (F_impl_inRange k)) (E_spec_RingOf k)
theorem E_impl_inRange_ok (k : Nat) : SoundE Tryd.prog glob (E_impl_inRange k) ∧ NatE (E_impl_inRange k) := tab_cons (s_impl_inRange k) (E_spec_RingOf_ok k)
/-- impl.IsHex -/
def cx_impl_IsHex : Cx := { N := 11, G := glob, C := tys, ad := fun d => Nat.beq d 5 || Nat.beq d 9, wk := false }
def F_impl_IsHex (k : Nat) : FArg (.c (.val (.st (.pair (.int .i64) (.int .i64)))) .e) := fun x K => impl_IsHex x.1 (fun (r0 : Bool) => K [⟨.bool, r0, true⟩])
theorem s_impl_IsHex (k : Nat) : SoundF Tryd.prog glob 25 (ftab (.c (.val (.st (.pair (.int .i64) (.int .i64)))) .e) (F_impl_IsHex k)) :=
  fun_ok (cx := cx_impl_IsHex) (by kernel_rfl) ⟨types, (E_impl_inRange_ok k).1, (E_impl_inRange_ok k).2, mixed, rfl⟩ Tryd.func25 rfl (LoopsOK.nil) [] (by kernel_rfl) (fun x K => by kernel_rfl)
def E_impl_IsHex (k : Nat) : Tbl := tcons 25 (ftab (.c (.val (.st (.pair (.int .i64) (.int .i64)))) .e) (F_impl_IsHex k)) (E_impl_inRange k)
theorem E_impl_IsHex_ok (k : Nat) : SoundE Tryd.prog glob (E_impl_IsHex k) ∧ NatE (E_impl_IsHex k) := tab_cons (s_impl_IsHex k) (E_impl_inRange_ok k)
/-- impl.stepBy -/
def cx_impl_stepBy : Cx := { N := 26, G := glob, C := tys, ad := fun d => false, wk := false }
def F_impl_stepBy (k : Nat) : FArg (.c (.val (.st (.pair (.int .i64) (.int .i64)))) (.c (.val (.int .i64)) (.c (.val (.int .i64)) .e))) := fun x K => impl_stepBy x.1 x.2.1 x.2.2.1 (fun (r0 : Int × Int) => K [⟨(.st (.pair (.int .i64) (.int .i64))), r0, true⟩])
theorem s_impl_stepBy (k : Nat) : SoundF Tryd.prog glob 26 (ftab (.c (.val (.st (.pair (.int .i64) (.int .i64)))) (.c (.val (.int .i64)) (.c (.val (.int .i64)) .e))) (F_impl_stepBy k)) :=
  fun_ok (cx := cx_impl_stepBy) (by kernel_rfl) ⟨types, (E_impl_IsHex_ok k).1, (E_impl_IsHex_ok k).2, mixed, rfl⟩ Tryd.func26 rfl (LoopsOK.nil) [] (by kernel_rfl) (fun x K => by kernel_rfl)
def E_impl_stepBy (k : Nat) : Tbl := tcons 26 (ftab (.c (.val (.st (.pair (.int .i64) (.int .i64)))) (.c (.val (.int .i64)) (.c (.val (.int .i64)) .e))) (F_impl_stepBy k)) (E_impl_IsHex k)
theorem E_impl_stepBy_ok (k : Nat) : SoundE Tryd.prog glob (E_impl_stepBy k) ∧ NatE (E_impl_stepBy k) := tab_cons (s_impl_stepBy k) (E_impl_IsHex_ok k)
/-- impl.allHexes -/
def cx_impl_allHexes : Cx := { N := 15, G := glob, C := tys, ad := fun d => Nat.beq d 12, wk := false }
def sp_impl_allHexes_l0 : LSp where
  cv := []
  ts := [(5, .val (.sl (.st (.pair (.int .i64) (.int .i64))))), (6, .val (.int .i64)), (7, .val (.int .i64))]
  ids := []
  tx := fun e => match e with | .exit i => bif Nat.beq i 0 then [] else [] | .ret => [2] | .normal => []
  ix := fun e => match e with | .exit i => bif Nat.beq i 0 then [] else [] | .ret => [] | .normal => []
def F_impl_allHexes_l0 (k : Nat) : LArg sp_impl_allHexes_l0 := fun K n x y => impl_allHexes_l0 k (K (.exit 0) (mkSt [] [])) (fun (y0 : Bool) => K (.ret) (mkSt [(2, .val .bool y0)] [])) n x.1 x.2.1 x.2.2.1
def LO_impl_allHexes_l0 (k : Nat) : LTbl := (lcons 2 (ltab sp_impl_allHexes_l0 (F_impl_allHexes_l0 k) k) lnil)
theorem lk_impl_allHexes_l0 (k : Nat) : LoopsOK Tryd.prog glob (E_impl_stepBy k) cx_impl_allHexes (LO_impl_allHexes_l0 k) ((2, (loopB Tryd.f34 2)) :: []) :=
  LoopsOK.cons (LoopsOK.nil) (E_impl_stepBy_ok k).2 (F := F_impl_allHexes_l0 k) k [] (by kernel_rfl) (by kernel_rfl) (fun K x y => rfl) (fun n x y K => by kernel_rfl)
def F_impl_allHexes (k : Nat) : FArg (.c (.val (.sl (.st (.pair (.int .i64) (.int .i64))))) .e) := fun x K => impl_allHexes k x.1 (fun (r0 : Bool) => K [⟨.bool, r0, true⟩])
theorem s_impl_allHexes (k : Nat) : SoundF Tryd.prog glob 34 (ftab (.c (.val (.sl (.st (.pair (.int .i64) (.int .i64))))) .e) (F_impl_allHexes k)) :=
  fun_ok (cx := cx_impl_allHexes) (by kernel_rfl) ⟨types, (E_impl_stepBy_ok k).1, (E_impl_stepBy_ok k).2, mixed, rfl⟩ Tryd.func34 rfl (lk_impl_allHexes_l0 k) [0] (by kernel_rfl) (fun x K => by kernel_rfl)
def E_impl_allHexes (k : Nat) : Tbl := tcons 34 (ftab (.c (.val (.sl (.st (.pair (.int .i64) (.int .i64))))) .e) (F_impl_allHexes k)) (E_impl_stepBy k)
theorem E_impl_allHexes_ok (k : Nat) : SoundE Tryd.prog glob (E_impl_allHexes k) ∧ NatE (E_impl_allHexes k) := tab_cons (s_impl_allHexes k) (E_impl_stepBy_ok k)
/-- impl.RingOf -/
def cx_impl_RingOf : Cx := { N := 46, G := glob, C := tys, ad := fun d => Nat.beq d 10 || Nat.beq d 14 || Nat.beq d 20 || Nat.beq d 39 || Nat.beq d 43, wk := false }
def sp_impl_RingOf_l0 : LSp where
  cv := []
  ts := [(1, .val (.int .i64)), (6, .own 17), (7, .ptr 7), (8, .val (.int .i64)), (27, .val (.int .i64)), (30, .val (.int .i64)), (31, .val (.int .i64))]
  ids := [(17, .row (.st (.pair (.int .i64) (.int .i64)))), (7, .box (.st (.pair (.int .i64) (.int .i64))) (.val (.st (.pair (.int .i64) (.int .i64)))))]
  tx := fun e => match e with | .exit i => bif Nat.beq i 2 then [1, 6, 7, 27] else [] | .ret => [] | .normal => []
  ix := fun e => match e with | .exit i => bif Nat.beq i 2 then [17, 7] else [] | .ret => [] | .normal => []
def F_impl_RingOf_l0 (k : Nat) : LArg sp_impl_RingOf_l0 := fun K n x y => impl_RingOf_l0 k (fun (y0 : Int) (y1 : Int) (y2 : List (Int × Int)) (y3 : Int × Int) => K (.exit 2) (mkSt [(1, .val (.int .i64) y0), (6, .own 17 1), (7, .ptr 7 1 []), (27, .val (.int .i64) y1)] [(17, some (.row (.st (.pair (.int .i64) (.int .i64))) y2)), (7, some (.box (.st (.pair (.int .i64) (.int .i64))) (.val (.st (.pair (.int .i64) (.int .i64))) y3)))])) n x.1 x.2.2.2.1 x.2.2.2.2.1 x.2.2.2.2.2.1 x.2.2.2.2.2.2.1 y.1 y.2.1
def LO_impl_RingOf_l0 (k : Nat) : LTbl := (lcons 10 (ltab sp_impl_RingOf_l0 (F_impl_RingOf_l0 k) k) lnil)
theorem lk_impl_RingOf_l0 (k : Nat) : LoopsOK Tryd.prog glob (E_impl_allHexes k) cx_impl_RingOf (LO_impl_RingOf_l0 k) ((10, (loopB Tryd.f14 10)) :: []) :=
  LoopsOK.cons (LoopsOK.nil) (E_impl_allHexes_ok k).2 (F := F_impl_RingOf_l0 k) k [] (by kernel_rfl) (by kernel_rfl) (fun K x y => rfl) (fun n x y K => by kernel_rfl)
def sp_impl_RingOf_l1 : LSp where
  cv := []
  ts := [(1, .val (.int .i64)), (6, .own 17), (7, .ptr 7), (27, .val (.int .i64))]
  ids := [(17, .row (.st (.pair (.int .i64) (.int .i64)))), (7, .box (.st (.pair (.int .i64) (.int .i64))) (.val (.st (.pair (.int .i64) (.int .i64)))))]
  tx := fun e => match e with | .exit i => bif Nat.beq i 0 then [6] else [] | .ret => [] | .normal => []
  ix := fun e => match e with | .exit i => bif Nat.beq i 0 then [17] else [] | .ret => [] | .normal => []
def F_impl_RingOf_l1 (k : Nat) : LArg sp_impl_RingOf_l1 := fun K n x y => impl_RingOf_l1 k (fun (y0 : List (Int × Int)) => K (.exit 0) (mkSt [(6, .own 17 1)] [(17, some (.row (.st (.pair (.int .i64) (.int .i64))) y0))])) n x.1 x.2.2.2.1 y.1 y.2.1
def LO_impl_RingOf_l1 (k : Nat) : LTbl := (lcons 7 (ltab sp_impl_RingOf_l1 (F_impl_RingOf_l1 k) k) (LO_impl_RingOf_l0 k))
theorem lk_impl_RingOf_l1 (k : Nat) : LoopsOK Tryd.prog glob (E_impl_allHexes k) cx_impl_RingOf (LO_impl_RingOf_l1 k) ((7, (loopB Tryd.f14 7)) :: ((10, (loopB Tryd.f14 10)) :: [])) :=
  LoopsOK.cons (lk_impl_RingOf_l0 k) (E_impl_allHexes_ok k).2 (F := F_impl_RingOf_l1 k) k [0] (by kernel_rfl) (by kernel_rfl) (fun K x y => rfl) (fun n x y K => by kernel_rfl)
def F_impl_RingOf (k : Nat) : FArg (.c (.val (.st (.pair (.int .i64) (.int .i64)))) (.c (.val (.int .i64)) .e)) := fun x K => impl_RingOf k x.1 x.2.1 (fun (r0 : List (Int × Int)) (r1 : Bool) => K [⟨(.sl (.st (.pair (.int .i64) (.int .i64)))), r0, true⟩, ⟨.bool, r1, true⟩])
theorem s_impl_RingOf (k : Nat) : SoundF Tryd.prog glob 14 (ftab (.c (.val (.st (.pair (.int .i64) (.int .i64)))) (.c (.val (.int .i64)) .e)) (F_impl_RingOf k)) :=
  fun_ok (cx := cx_impl_RingOf) (by kernel_rfl) ⟨types, (E_impl_allHexes_ok k).1, (E_impl_allHexes_ok k).2, mixed, rfl⟩ Tryd.func14 rfl (lk_impl_RingOf_l1 k) [0] (by kernel_rfl) (fun x K => by kernel_rfl)
def E_impl_RingOf (k : Nat) : Tbl := tcons 14 (ftab (.c (.val (.st (.pair (.int .i64) (.int .i64)))) (.c (.val (.int .i64)) .e)) (F_impl_RingOf k)) (E_impl_allHexes k)
theorem E_impl_RingOf_ok (k : Nat) : SoundE Tryd.prog glob (E_impl_RingOf k) ∧ NatE (E_impl_RingOf k) := tab_cons (s_impl_RingOf k) (E_impl_allHexes_ok k)
/-- laws.eqHex -/
def cx_laws_eqHex : Cx := { N := 15, G := glob, C := tys, ad := fun d => false, wk := false }
def F_laws_eqHex (k : Nat) : FArg (.c (.val (.st (.pair (.int .i64) (.int .i64)))) (.c (.val (.st (.pair (.int .i64) (.int .i64)))) .e)) := fun x K => laws_eqHex x.1 x.2.1 (fun (r0 : Bool) => K [⟨.bool, r0, true⟩])
theorem s_laws_eqHex (k : Nat) : SoundF Tryd.prog glob 12 (ftab (.c (.val (.st (.pair (.int .i64) (.int .i64)))) (.c (.val (.st (.pair (.int .i64) (.int .i64)))) .e)) (F_laws_eqHex k)) :=
  fun_ok (cx := cx_laws_eqHex) (by kernel_rfl) ⟨types, (E_impl_RingOf_ok k).1, (E_impl_RingOf_ok k).2, mixed, rfl⟩ Tryd.func12 rfl (LoopsOK.nil) [] (by kernel_rfl) (fun x K => by kernel_rfl)
def E_laws_eqHex (k : Nat) : Tbl := tcons 12 (ftab (.c (.val (.st (.pair (.int .i64) (.int .i64)))) (.c (.val (.st (.pair (.int .i64) (.int .i64)))) .e)) (F_laws_eqHex k)) (E_impl_RingOf k)
theorem E_laws_eqHex_ok (k : Nat) : SoundE Tryd.prog glob (E_laws_eqHex k) ∧ NatE (E_laws_eqHex k) := tab_cons (s_laws_eqHex k) (E_impl_RingOf_ok k)
/-- laws.eqHexS -/
def cx_laws_eqHexS : Cx := { N := 27, G := glob, C := tys, ad := fun d => false, wk := false }
def sp_laws_eqHexS_l0 : LSp where
  cv := []
  ts := [(0, .val (.sl (.st (.pair (.int .i64) (.int .i64))))), (1, .val (.sl (.st (.pair (.int .i64) (.int .i64))))), (5, .val (.int .i64))]
  ids := []
  tx := fun e => match e with | .exit i => bif Nat.beq i 0 then [] else [] | .ret => [4] | .normal => []
  ix := fun e => match e with | .exit i => bif Nat.beq i 0 then [] else [] | .ret => [] | .normal => []
def F_laws_eqHexS_l0 (k : Nat) : LArg sp_laws_eqHexS_l0 := fun K n x y => laws_eqHexS_l0 k (K (.exit 0) (mkSt [] [])) (fun (y0 : Bool) => K (.ret) (mkSt [(4, .val .bool y0)] [])) n x.1 x.2.1 x.2.2.1
def LO_laws_eqHexS_l0 (k : Nat) : LTbl := (lcons 4 (ltab sp_laws_eqHexS_l0 (F_laws_eqHexS_l0 k) k) lnil)
theorem lk_laws_eqHexS_l0 (k : Nat) : LoopsOK Tryd.prog glob (E_laws_eqHex k) cx_laws_eqHexS (LO_laws_eqHexS_l0 k) ((4, (loopB Tryd.f15 4)) :: []) :=
  LoopsOK.cons (LoopsOK.nil) (E_laws_eqHex_ok k).2 (F := F_laws_eqHexS_l0 k) k [] (by kernel_rfl) (by kernel_rfl) (fun K x y => rfl) (fun n x y K => by kernel_rfl)
def F_laws_eqHexS (k : Nat) : FArg (.c (.val (.sl (.st (.pair (.int .i64) (.int .i64))))) (.c (.val (.sl (.st (.pair (.int .i64) (.int .i64))))) .e)) := fun x K => laws_eqHexS k x.1 x.2.1 (fun (r0 : Bool) => K [⟨.bool, r0, true⟩])
theorem s_laws_eqHexS (k : Nat) : SoundF Tryd.prog glob 15 (ftab (.c (.val (.sl (.st (.pair (.int .i64) (.int .i64))))) (.c (.val (.sl (.st (.pair (.int .i64) (.int .i64))))) .e)) (F_laws_eqHexS k)) :=
  fun_ok (cx := cx_laws_eqHexS) (by kernel_rfl) ⟨types, (E_laws_eqHex_ok k).1, (E_laws_eqHex_ok k).2, mixed, rfl⟩ Tryd.func15 rfl (lk_laws_eqHexS_l0 k) [0] (by kernel_rfl) (fun x K => by kernel_rfl)
def E_laws_eqHexS (k : Nat) : Tbl := tcons 15 (ftab (.c (.val (.sl (.st (.pair (.int .i64) (.int .i64))))) (.c (.val (.sl (.st (.pair (.int .i64) (.int .i64))))) .e)) (F_laws_eqHexS k)) (E_laws_eqHex k)
theorem E_laws_eqHexS_ok (k : Nat) : SoundE Tryd.prog glob (E_laws_eqHexS k) ∧ NatE (E_laws_eqHexS k) := tab_cons (s_laws_eqHexS k) (E_laws_eqHex_ok k)
/-- laws.markHexS -/
def cx_laws_markHexS_in : Cx := { N := 27, G := glob, C := tys, ad := fun d => false, wk := true }
def sp_laws_markHexS_in_l0 : LSp where
  cv := []
  ts := [(0, .own 3000000), (1, .val (.int .i64)), (5, .val (.int .i64))]
  ids := [(3000000, .row (.st (.pair (.int .i64) (.int .i64))))]
  tx := fun e => match e with | .exit i => bif Nat.beq i 0 then [1] else [] | .ret => [] | .normal => []
  ix := fun e => match e with | .exit i => bif Nat.beq i 0 then [3000000] else [] | .ret => [] | .normal => []
def F_laws_markHexS_in_l0 (k : Nat) : LArg sp_laws_markHexS_in_l0 := fun K n x y => laws_markHexS_in_l0 k (fun (y0 : Int) (y1 : List (Int × Int)) => K (.exit 0) (mkSt [(1, .val (.int .i64) y0)] [(3000000, some (.row (.st (.pair (.int .i64) (.int .i64))) y1))])) n x.2.1 x.2.2.1 y.1
def LO_laws_markHexS_in_l0 (k : Nat) : LTbl := (lcons 2 (ltab sp_laws_markHexS_in_l0 (F_laws_markHexS_in_l0 k) k) lnil)
theorem lk_laws_markHexS_in_l0 (k : Nat) : LoopsOK Tryd.prog glob (E_laws_eqHexS k) cx_laws_markHexS_in (LO_laws_markHexS_in_l0 k) ((2, (loopB Tryd.f16 2)) :: []) :=
  LoopsOK.cons (LoopsOK.nil) (E_laws_eqHexS_ok k).2 (F := F_laws_markHexS_in_l0 k) k [] (by kernel_rfl) (by kernel_rfl) (fun K x y => rfl) (fun n x y K => by kernel_rfl)
def F_laws_markHexS_in (k : Nat) : FArg (.c (.val (.sl (.st (.pair (.int .i64) (.int .i64))))) (.c (.val (.int .i64)) .e)) := fun x K => laws_markHexS_in k x.1 x.2.1 (fun (r0 : List (Int × Int)) (r1 : Int) => K [⟨(.sl (.st (.pair (.int .i64) (.int .i64)))), r0, false⟩, ⟨(.int .i64), r1, true⟩])
theorem s_laws_markHexS_in (k : Nat) : SoundI Tryd.prog glob 16 1 (ftab (.c (.val (.sl (.st (.pair (.int .i64) (.int .i64))))) (.c (.val (.int .i64)) .e)) (F_laws_markHexS_in k)) :=
  funI_ok (m := 1) (cx := cx_laws_markHexS_in) (by kernel_rfl) ⟨types, (E_laws_eqHexS_ok k).1, (E_laws_eqHexS_ok k).2, mixed, rfl⟩ Tryd.func16 rfl (lk_laws_markHexS_in_l0 k) [0] (by kernel_rfl) (fun x K => by kernel_rfl)
def E_laws_markHexS_in (k : Nat) : Tbl := tcons (16 + 1000000 * 1) (ftab (.c (.val (.sl (.st (.pair (.int .i64) (.int .i64))))) (.c (.val (.int .i64)) .e)) (F_laws_markHexS_in k)) (E_laws_eqHexS k)
theorem E_laws_markHexS_in_ok (k : Nat) : SoundE Tryd.prog glob (E_laws_markHexS_in k) ∧ NatE (E_laws_markHexS_in k) := tab_consI (by decide) (s_laws_markHexS_in k) (E_laws_eqHexS_ok k)
/-- laws.heldHexS -/
def cx_laws_heldHexS : Cx := { N := 31, G := glob, C := tys, ad := fun d => false, wk := false }
def sp_laws_heldHexS_l0 : LSp where
  cv := []
  ts := [(0, .val (.sl (.st (.pair (.int .i64) (.int .i64))))), (1, .val (.int .i64)), (5, .val (.int .i64))]
  ids := []
  tx := fun e => match e with | .exit i => bif Nat.beq i 0 then [1] else [] | .ret => [4] | .normal => []
  ix := fun e => match e with | .exit i => bif Nat.beq i 0 then [] else [] | .ret => [] | .normal => []
def F_laws_heldHexS_l0 (k : Nat) : LArg sp_laws_heldHexS_l0 := fun K n x y => laws_heldHexS_l0 k (fun (y0 : Int) => K (.exit 0) (mkSt [(1, .val (.int .i64) y0)] [])) (fun (y0 : Int) => K (.ret) (mkSt [(4, .val (.int .i64) y0)] [])) n x.1 x.2.1 x.2.2.1
def LO_laws_heldHexS_l0 (k : Nat) : LTbl := (lcons 2 (ltab sp_laws_heldHexS_l0 (F_laws_heldHexS_l0 k) k) lnil)
theorem lk_laws_heldHexS_l0 (k : Nat) : LoopsOK Tryd.prog glob (E_laws_markHexS_in k) cx_laws_heldHexS (LO_laws_heldHexS_l0 k) ((2, (loopB Tryd.f17 2)) :: []) :=
  LoopsOK.cons (LoopsOK.nil) (E_laws_markHexS_in_ok k).2 (F := F_laws_heldHexS_l0 k) k [] (by kernel_rfl) (by kernel_rfl) (fun K x y => rfl) (fun n x y K => by kernel_rfl)
def F_laws_heldHexS (k : Nat) : FArg (.c (.val (.sl (.st (.pair (.int .i64) (.int .i64))))) (.c (.val (.int .i64)) .e)) := fun x K => laws_heldHexS k x.1 x.2.1 (fun (r0 : Int) => K [⟨(.int .i64), r0, true⟩])
theorem s_laws_heldHexS (k : Nat) : SoundF Tryd.prog glob 17 (ftab (.c (.val (.sl (.st (.pair (.int .i64) (.int .i64))))) (.c (.val (.int .i64)) .e)) (F_laws_heldHexS k)) :=
  fun_ok (cx := cx_laws_heldHexS) (by kernel_rfl) ⟨types, (E_laws_markHexS_in_ok k).1, (E_laws_markHexS_in_ok k).2, mixed, rfl⟩ Tryd.func17 rfl (lk_laws_heldHexS_l0 k) [0] (by kernel_rfl) (fun x K => by kernel_rfl)
def E_laws_heldHexS (k : Nat) : Tbl := tcons 17 (ftab (.c (.val (.sl (.st (.pair (.int .i64) (.int .i64))))) (.c (.val (.int .i64)) .e)) (F_laws_heldHexS k)) (E_laws_markHexS_in k)
theorem E_laws_heldHexS_ok (k : Nat) : SoundE Tryd.prog glob (E_laws_heldHexS k) ∧ NatE (E_laws_heldHexS k) := tab_cons (s_laws_heldHexS k) (E_laws_markHexS_in_ok k)
/-- laws.FnExactRingOf -/
def cx_laws_FnExactRingOf : Cx := { N := 71, G := glob, C := tys, ad := fun d => Nat.beq d 15 || Nat.beq d 17 || Nat.beq d 22 || Nat.beq d 24 || Nat.beq d 29 || Nat.beq d 41 || Nat.beq d 49 || Nat.beq d 51 || Nat.beq d 56 || Nat.beq d 65, wk := false, ip := fun d => bif Nat.beq d 16 then 1 else 0 }
def F_laws_FnExactRingOf (k : Nat) : FArg (.c (.val (.st (.pair (.int .i64) (.int .i64)))) (.c (.val (.int .i64)) .e)) := fun x K => laws_FnExactRingOf k x.1 x.2.1 (fun (r0 : Bool) => K [⟨.bool, r0, true⟩])
theorem q_laws_FnExactRingOf (k : Nat) (c0 : (Int × Int) → ∀ {R : Type}, ((Int × Int) → Option R) → Option R) (c1 : (Int × Int) → Int → ∀ {R : Type}, ((List (Int × Int)) → Bool → Option R) → Option R) (c2 : (Int × Int) → Int → ∀ {R : Type}, ((List (Int × Int)) → Bool → Option R) → Option R) (c3 : (List (Int × Int)) → (List (Int × Int)) → ∀ {R : Type}, (Bool → Option R) → Option R) (c4 : (List (Int × Int)) → Int → ∀ {R : Type}, ((List (Int × Int)) → Int → Option R) → Option R) (c5 : (List (Int × Int)) → Int → ∀ {R : Type}, (Int → Option R) → Option R) {R : Type} (x : ((.c (.val (.st (.pair (.int .i64) (.int .i64)))) (.c (.val (.int .i64)) .e)) : Sh).den) (K : List Res → Option R) : (fun (x : Int × Int) (x0 : Int) (K : Bool → Option R) =>
    c0 x fun (r : Int × Int) =>
    c1 r x0 fun (r0 : List (Int × Int)) (r1 : Bool) =>
    c0 x fun (r2 : Int × Int) =>
    c2 r2 x0 fun (r3 : List (Int × Int)) (r4 : Bool) =>
    c3 r3 r0 fun (r5 : Bool) =>
    bif !r5 then
      K false
    else
      bif !(r4 == r1) then
        K false
      else
        c4 r3 (1 : Int) fun (t : List (Int × Int)) (r6 : Int) =>
        c5 t (1 : Int) fun (r7 : Int) =>
        bif decide (r7 < (0 : Int)) then
          K false
        else
          bif !(decide (r7 = r6)) then
            K false
          else
            c0 x fun (r8 : Int × Int) =>
            c2 r8 x0 fun (r9 : List (Int × Int)) (r10 : Bool) =>
            c3 r9 r0 fun (r11 : Bool) =>
            bif !r11 then
              K false
            else
              bif !(r10 == r1) then
                K false
              else
                c5 t (1 : Int) fun (r12 : Int) =>
                bif decide (r12 < (0 : Int)) then
                  K false
                else
                  bif !(decide (r12 = r6)) then
                    K false
                  else
                    K true) x.1 x.2.1 (fun (r0 : Bool) => K [⟨.bool, r0, true⟩]) = evFun ((tcons 8 (ftab (.c (.val (.st (.pair (.int .i64) (.int .i64)))) .e) fun x K => c0 x.1 (fun (r0 : Int × Int) => K [⟨(.st (.pair (.int .i64) (.int .i64))), r0, true⟩])) (tcons 13 (ftab (.c (.val (.st (.pair (.int .i64) (.int .i64)))) (.c (.val (.int .i64)) .e)) fun x K => c1 x.1 x.2.1 (fun (r0 : List (Int × Int)) (r1 : Bool) => K [⟨(.sl (.st (.pair (.int .i64) (.int .i64)))), r0, false⟩, ⟨.bool, r1, true⟩])) (tcons 14 (ftab (.c (.val (.st (.pair (.int .i64) (.int .i64)))) (.c (.val (.int .i64)) .e)) fun x K => c2 x.1 x.2.1 (fun (r0 : List (Int × Int)) (r1 : Bool) => K [⟨(.sl (.st (.pair (.int .i64) (.int .i64)))), r0, true⟩, ⟨.bool, r1, true⟩])) (tcons 15 (ftab (.c (.val (.sl (.st (.pair (.int .i64) (.int .i64))))) (.c (.val (.sl (.st (.pair (.int .i64) (.int .i64))))) .e)) fun x K => c3 x.1 x.2.1 (fun (r0 : Bool) => K [⟨.bool, r0, true⟩])) (tcons (16 + 1000000 * 1) (ftab (.c (.val (.sl (.st (.pair (.int .i64) (.int .i64))))) (.c (.val (.int .i64)) .e)) fun x K => c4 x.1 x.2.1 (fun (r0 : List (Int × Int)) (r1 : Int) => K [⟨(.sl (.st (.pair (.int .i64) (.int .i64)))), r0, false⟩, ⟨(.int .i64), r1, true⟩])) (tcons 17 (ftab (.c (.val (.sl (.st (.pair (.int .i64) (.int .i64))))) (.c (.val (.int .i64)) .e)) fun x K => c5 x.1 x.2.1 (fun (r0 : Int) => K [⟨(.int .i64), r0, true⟩])) tnil))))))) lnil cx_laws_FnExactRingOf Tryd.f5 (give (.c (.val (.st (.pair (.int .i64) (.int .i64)))) (.c (.val (.int .i64)) .e)) x) K := by kernel_rfl
theorem e_laws_FnExactRingOf (k : Nat) : SoundE Tryd.prog glob (tcons 8 (ftab (.c (.val (.st (.pair (.int .i64) (.int .i64)))) .e) (F_laws_toHex k)) (tcons 13 (ftab (.c (.val (.st (.pair (.int .i64) (.int .i64)))) (.c (.val (.int .i64)) .e)) (F_spec_RingOf k)) (tcons 14 (ftab (.c (.val (.st (.pair (.int .i64) (.int .i64)))) (.c (.val (.int .i64)) .e)) (F_impl_RingOf k)) (tcons 15 (ftab (.c (.val (.sl (.st (.pair (.int .i64) (.int .i64))))) (.c (.val (.sl (.st (.pair (.int .i64) (.int .i64))))) .e)) (F_laws_eqHexS k)) (tcons (16 + 1000000 * 1) (ftab (.c (.val (.sl (.st (.pair (.int .i64) (.int .i64))))) (.c (.val (.int .i64)) .e)) (F_laws_markHexS_in k)) (tcons 17 (ftab (.c (.val (.sl (.st (.pair (.int .i64) (.int .i64))))) (.c (.val (.int .i64)) .e)) (F_laws_heldHexS k)) tnil)))))) ∧ NatE (tcons 8 (ftab (.c (.val (.st (.pair (.int .i64) (.int .i64)))) .e) (F_laws_toHex k)) (tcons 13 (ftab (.c (.val (.st (.pair (.int .i64) (.int .i64)))) (.c (.val (.int .i64)) .e)) (F_spec_RingOf k)) (tcons 14 (ftab (.c (.val (.st (.pair (.int .i64) (.int .i64)))) (.c (.val (.int .i64)) .e)) (F_impl_RingOf k)) (tcons 15 (ftab (.c (.val (.sl (.st (.pair (.int .i64) (.int .i64))))) (.c (.val (.sl (.st (.pair (.int .i64) (.int .i64))))) .e)) (F_laws_eqHexS k)) (tcons (16 + 1000000 * 1) (ftab (.c (.val (.sl (.st (.pair (.int .i64) (.int .i64))))) (.c (.val (.int .i64)) .e)) (F_laws_markHexS_in k)) (tcons 17 (ftab (.c (.val (.sl (.st (.pair (.int .i64) (.int .i64))))) (.c (.val (.int .i64)) .e)) (F_laws_heldHexS k)) tnil)))))) := (tab_cons (s_laws_toHex k) (tab_cons (s_spec_RingOf k) (tab_cons (s_impl_RingOf k) (tab_cons (s_laws_eqHexS k) (tab_consI (by decide) (s_laws_markHexS_in k) (tab_cons (s_laws_heldHexS k) e0))))))
theorem s_laws_FnExactRingOf (k : Nat) : SoundF Tryd.prog glob 5 (ftab (.c (.val (.st (.pair (.int .i64) (.int .i64)))) (.c (.val (.int .i64)) .e)) (F_laws_FnExactRingOf k)) :=
  fun_ok (cx := cx_laws_FnExactRingOf) (by kernel_rfl) ⟨types, (e_laws_FnExactRingOf k).1, (e_laws_FnExactRingOf k).2, mixed, rfl⟩ Tryd.func5 rfl (LoopsOK.nil) [] (by kernel_rfl) (fun x K => q_laws_FnExactRingOf k (fun a0 {_} K => laws_toHex a0 K) (fun a0 a1 {_} K => spec_RingOf k a0 a1 K) (fun a0 a1 {_} K => impl_RingOf k a0 a1 K) (fun a0 a1 {_} K => laws_eqHexS k a0 a1 K) (fun a0 a1 {_} K => laws_markHexS_in k a0 a1 K) (fun a0 a1 {_} K => laws_heldHexS k a0 a1 K) x K)
def E_laws_FnExactRingOf (k : Nat) : Tbl := tcons 5 (ftab (.c (.val (.st (.pair (.int .i64) (.int .i64)))) (.c (.val (.int .i64)) .e)) (F_laws_FnExactRingOf k)) (E_laws_heldHexS k)
theorem E_laws_FnExactRingOf_ok (k : Nat) : SoundE Tryd.prog glob (E_laws_FnExactRingOf k) ∧ NatE (E_laws_FnExactRingOf k) := tab_cons (s_laws_FnExactRingOf k) (E_laws_heldHexS_ok k)
end Go.Proofs.YtpaikmmncnigkaaDoor.TieRingOf
