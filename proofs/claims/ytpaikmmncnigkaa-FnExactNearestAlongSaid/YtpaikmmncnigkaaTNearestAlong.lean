import Derived.Test.YtpaikmmncnigkaaEv2
import Derived.Test.YtpaikmmncnigkaaLg0ATAL
import Derived.KernelRfl
import Derived.Eval
import Derived.Test.YtpaikmmncnigkaaProg
import Derived.Test.YtpaikmmncnigkaaChecked
set_option linter.unusedVariables false
set_option linter.unusedSimpArgs false
set_option linter.unusedSectionVars false
set_option linter.unusedVariables false
set_option maxRecDepth 100000
namespace Go.Proofs.Ytpaikmmncnigkaa.TieNearestAlong
open Go Go.Ev Go.Lg Go.Proofs
def tys : Nat → Option Ty := lookT [(3, (.int .i64)), (4, .bool), (24, (.st (.pair (.int .i64) (.int .i64)))), (26, (.st (.pair (.int .i64) (.int .i64)))), (40, (.sl (.st (.pair (.int .i64) (.int .i64))))), (43, (.sl (.st (.pair (.int .i64) (.int .i64)))))]
def glob : Nat → AV := fun g => .bot
theorem types : Types Try.prog tys := types_of (by kernel_rfl)
theorem mixed : Try.prog.follows .mixedOrders = true := Checked.mixed Try.checked
theorem e0 : SoundE Try.prog glob tnil ∧ NatE tnil := ⟨tnil_sound, tnil_nat⟩
/-- laws.szHexS -/
def cx_laws_szHexS : Cx := { N := 12, G := glob, C := tys, ad := fun d => false, wk := false }
def F_laws_szHexS (k : Nat) : FArg (.c (.val (.sl (.st (.pair (.int .i64) (.int .i64))))) (.c (.val (.int .i64)) .e)) := fun x K => laws_szHexS x.1 x.2.1 (fun (r0 : Int) => K [⟨(.int .i64), r0, true⟩])
theorem s_laws_szHexS (k : Nat) : SoundF Try.prog glob 27 (ftab (.c (.val (.sl (.st (.pair (.int .i64) (.int .i64))))) (.c (.val (.int .i64)) .e)) (F_laws_szHexS k)) :=
  fun_ok (cx := cx_laws_szHexS) (by kernel_rfl) ⟨types, (e0).1, (e0).2, mixed, rfl⟩ Try.func27 rfl (LoopsOK.nil) [] (by kernel_rfl) (fun x K => by kernel_rfl)
def E_laws_szHexS (k : Nat) : Tbl := tcons 27 (ftab (.c (.val (.sl (.st (.pair (.int .i64) (.int .i64))))) (.c (.val (.int .i64)) .e)) (F_laws_szHexS k)) (tnil)
theorem E_laws_szHexS_ok (k : Nat) : SoundE Try.prog glob (E_laws_szHexS k) ∧ NatE (E_laws_szHexS k) := ⟨tcons_sound (s_laws_szHexS k) (e0).1, tcons_nat (s_laws_szHexS k) (e0).2⟩
/-- laws.toHex -/
def cx_laws_toHex : Cx := { N := 11, G := glob, C := tys, ad := fun d => false, wk := false }
def F_laws_toHex (k : Nat) : FArg (.c (.val (.st (.pair (.int .i64) (.int .i64)))) .e) := fun x K => laws_toHex x.1 (fun (r0 : Int × Int) => K [⟨(.st (.pair (.int .i64) (.int .i64))), r0, true⟩])
theorem s_laws_toHex (k : Nat) : SoundF Try.prog glob 14 (ftab (.c (.val (.st (.pair (.int .i64) (.int .i64)))) .e) (F_laws_toHex k)) :=
  fun_ok (cx := cx_laws_toHex) (by kernel_rfl) ⟨types, (E_laws_szHexS_ok k).1, (E_laws_szHexS_ok k).2, mixed, rfl⟩ Try.func14 rfl (LoopsOK.nil) [] (by kernel_rfl) (fun x K => by kernel_rfl)
def E_laws_toHex (k : Nat) : Tbl := tcons 14 (ftab (.c (.val (.st (.pair (.int .i64) (.int .i64)))) .e) (F_laws_toHex k)) (E_laws_szHexS k)
theorem E_laws_toHex_ok (k : Nat) : SoundE Try.prog glob (E_laws_toHex k) ∧ NatE (E_laws_toHex k) := ⟨tcons_sound (s_laws_toHex k) (E_laws_szHexS_ok k).1, tcons_nat (s_laws_toHex k) (E_laws_szHexS_ok k).2⟩
/-- laws.toHexS -/
def cx_laws_toHexS : Cx := { N := 23, G := glob, C := tys, ad := fun d => false, wk := false }
def sp_laws_toHexS_l0 : LSp where
  cv := []
  ts := [(0, .val (.sl (.st (.pair (.int .i64) (.int .i64))))), (3, .own 7), (4, .val (.int .i64))]
  ids := [(7, .row (.st (.pair (.int .i64) (.int .i64))))]
  tx := fun e => match e with | .exit i => bif Nat.beq i 0 then [3] else [] | .ret => [] | .normal => []
  ix := fun e => match e with | .exit i => bif Nat.beq i 0 then [7] else [] | .ret => [] | .normal => []
def F_laws_toHexS_l0 (k : Nat) : LArg sp_laws_toHexS_l0 := fun K n x y => laws_toHexS_l0 k (fun (y0 : List (Int × Int)) => K (.exit 0) (mkSt [(3, .own 7 1)] [(7, some (.row (.st (.pair (.int .i64) (.int .i64))) y0))])) n x.1 x.2.2.1 y.1
def LO_laws_toHexS_l0 (k : Nat) : LTbl := (lcons 3 (ltab sp_laws_toHexS_l0 (F_laws_toHexS_l0 k) k) lnil)
theorem lk_laws_toHexS_l0 (k : Nat) : LoopsOK Try.prog glob (E_laws_toHex k) cx_laws_toHexS (LO_laws_toHexS_l0 k) ((3, (loopB Try.f29 3)) :: []) :=
  LoopsOK.cons (LoopsOK.nil) (E_laws_toHex_ok k).2 (F := F_laws_toHexS_l0 k) k [] (by kernel_rfl) (by kernel_rfl) (fun K x y => rfl) (fun n x y K => by kernel_rfl)
def F_laws_toHexS (k : Nat) : FArg (.c (.val (.sl (.st (.pair (.int .i64) (.int .i64))))) .e) := fun x K => laws_toHexS k x.1 (fun (r0 : List (Int × Int)) => K [⟨(.sl (.st (.pair (.int .i64) (.int .i64)))), r0, true⟩])
theorem s_laws_toHexS (k : Nat) : SoundF Try.prog glob 29 (ftab (.c (.val (.sl (.st (.pair (.int .i64) (.int .i64))))) .e) (F_laws_toHexS k)) :=
  fun_ok (cx := cx_laws_toHexS) (by kernel_rfl) ⟨types, (E_laws_toHex_ok k).1, (E_laws_toHex_ok k).2, mixed, rfl⟩ Try.func29 rfl (lk_laws_toHexS_l0 k) [0] (by kernel_rfl) (fun x K => by kernel_rfl)
def E_laws_toHexS (k : Nat) : Tbl := tcons 29 (ftab (.c (.val (.sl (.st (.pair (.int .i64) (.int .i64))))) .e) (F_laws_toHexS k)) (E_laws_toHex k)
theorem E_laws_toHexS_ok (k : Nat) : SoundE Try.prog glob (E_laws_toHexS k) ∧ NatE (E_laws_toHexS k) := ⟨tcons_sound (s_laws_toHexS k) (E_laws_toHex_ok k).1, tcons_nat (s_laws_toHexS k) (E_laws_toHex_ok k).2⟩
/-- spec.l1In -/
def cx_spec_l1In : Cx := { N := 15, G := glob, C := tys, ad := fun d => false, wk := false }
def F_spec_l1In (k : Nat) : FArg (.c (.val (.int .i64)) (.c (.val (.int .i64)) (.c (.val (.int .i64)) .e))) := fun x K => spec_l1In x.1 x.2.1 x.2.2.1 (fun (r0 : Bool) => K [⟨.bool, r0, true⟩])
theorem s_spec_l1In (k : Nat) : SoundF Try.prog glob 43 (ftab (.c (.val (.int .i64)) (.c (.val (.int .i64)) (.c (.val (.int .i64)) .e))) (F_spec_l1In k)) :=
  fun_ok (cx := cx_spec_l1In) (by kernel_rfl) ⟨types, (E_laws_toHexS_ok k).1, (E_laws_toHexS_ok k).2, mixed, rfl⟩ Try.func43 rfl (LoopsOK.nil) [] (by kernel_rfl) (fun x K => by kernel_rfl)
def E_spec_l1In (k : Nat) : Tbl := tcons 43 (ftab (.c (.val (.int .i64)) (.c (.val (.int .i64)) (.c (.val (.int .i64)) .e))) (F_spec_l1In k)) (E_laws_toHexS k)
theorem E_spec_l1In_ok (k : Nat) : SoundE Try.prog glob (E_spec_l1In k) ∧ NatE (E_spec_l1In k) := ⟨tcons_sound (s_spec_l1In k) (E_laws_toHexS_ok k).1, tcons_nat (s_spec_l1In k) (E_laws_toHexS_ok k).2⟩
/-- spec.hGood -/
def cx_spec_hGood : Cx := { N := 11, G := glob, C := tys, ad := fun d => false, wk := false }
def F_spec_hGood (k : Nat) : FArg (.c (.val (.st (.pair (.int .i64) (.int .i64)))) .e) := fun x K => spec_hGood x.1 (fun (r0 : Bool) => K [⟨.bool, r0, true⟩])
theorem s_spec_hGood (k : Nat) : SoundF Try.prog glob 41 (ftab (.c (.val (.st (.pair (.int .i64) (.int .i64)))) .e) (F_spec_hGood k)) :=
  fun_ok (cx := cx_spec_hGood) (by kernel_rfl) ⟨types, (E_spec_l1In_ok k).1, (E_spec_l1In_ok k).2, mixed, rfl⟩ Try.func41 rfl (LoopsOK.nil) [] (by kernel_rfl) (fun x K => by kernel_rfl)
def E_spec_hGood (k : Nat) : Tbl := tcons 41 (ftab (.c (.val (.st (.pair (.int .i64) (.int .i64)))) .e) (F_spec_hGood k)) (E_spec_l1In k)
theorem E_spec_hGood_ok (k : Nat) : SoundE Try.prog glob (E_spec_hGood k) ∧ NatE (E_spec_hGood k) := ⟨tcons_sound (s_spec_hGood k) (E_spec_l1In_ok k).1, tcons_nat (s_spec_hGood k) (E_spec_l1In_ok k).2⟩
/-- spec.l1Most -/
def cx_spec_l1Most : Cx := { N := 10, G := glob, C := tys, ad := fun d => false, wk := false }
def F_spec_l1Most (k : Nat) : FArg (.c (.val (.int .i64)) (.c (.val (.int .i64)) .e)) := fun x K => spec_l1Most x.1 x.2.1 (fun (r0 : Int) => K [⟨(.int .i64), r0, true⟩])
theorem s_spec_l1Most (k : Nat) : SoundF Try.prog glob 60 (ftab (.c (.val (.int .i64)) (.c (.val (.int .i64)) .e)) (F_spec_l1Most k)) :=
  fun_ok (cx := cx_spec_l1Most) (by kernel_rfl) ⟨types, (E_spec_hGood_ok k).1, (E_spec_hGood_ok k).2, mixed, rfl⟩ Try.func60 rfl (LoopsOK.nil) [] (by kernel_rfl) (fun x K => by kernel_rfl)
def E_spec_l1Most (k : Nat) : Tbl := tcons 60 (ftab (.c (.val (.int .i64)) (.c (.val (.int .i64)) .e)) (F_spec_l1Most k)) (E_spec_hGood k)
theorem E_spec_l1Most_ok (k : Nat) : SoundE Try.prog glob (E_spec_l1Most k) ∧ NatE (E_spec_l1Most k) := ⟨tcons_sound (s_spec_l1Most k) (E_spec_hGood_ok k).1, tcons_nat (s_spec_l1Most k) (E_spec_hGood_ok k).2⟩
/-- spec.l1Abs -/
def cx_spec_l1Abs : Cx := { N := 7, G := glob, C := tys, ad := fun d => false, wk := false }
def F_spec_l1Abs (k : Nat) : FArg (.c (.val (.int .i64)) .e) := fun x K => spec_l1Abs x.1 (fun (r0 : Int) => K [⟨(.int .i64), r0, true⟩])
theorem s_spec_l1Abs (k : Nat) : SoundF Try.prog glob 56 (ftab (.c (.val (.int .i64)) .e) (F_spec_l1Abs k)) :=
  fun_ok (cx := cx_spec_l1Abs) (by kernel_rfl) ⟨types, (E_spec_l1Most_ok k).1, (E_spec_l1Most_ok k).2, mixed, rfl⟩ Try.func56 rfl (LoopsOK.nil) [] (by kernel_rfl) (fun x K => by kernel_rfl)
def E_spec_l1Abs (k : Nat) : Tbl := tcons 56 (ftab (.c (.val (.int .i64)) .e) (F_spec_l1Abs k)) (E_spec_l1Most k)
theorem E_spec_l1Abs_ok (k : Nat) : SoundE Try.prog glob (E_spec_l1Abs k) ∧ NatE (E_spec_l1Abs k) := ⟨tcons_sound (s_spec_l1Abs k) (E_spec_l1Most_ok k).1, tcons_nat (s_spec_l1Abs k) (E_spec_l1Most_ok k).2⟩
/-- spec.hDistance -/
def cx_spec_hDistance : Cx := { N := 28, G := glob, C := tys, ad := fun d => false, wk := false }
def F_spec_hDistance (k : Nat) : FArg (.c (.val (.st (.pair (.int .i64) (.int .i64)))) (.c (.val (.st (.pair (.int .i64) (.int .i64)))) .e)) := fun x K => spec_hDistance x.1 x.2.1 (fun (r0 : Int) => K [⟨(.int .i64), r0, true⟩])
theorem s_spec_hDistance (k : Nat) : SoundF Try.prog glob 49 (ftab (.c (.val (.st (.pair (.int .i64) (.int .i64)))) (.c (.val (.st (.pair (.int .i64) (.int .i64)))) .e)) (F_spec_hDistance k)) :=
  fun_ok (cx := cx_spec_hDistance) (by kernel_rfl) ⟨types, (E_spec_l1Abs_ok k).1, (E_spec_l1Abs_ok k).2, mixed, rfl⟩ Try.func49 rfl (LoopsOK.nil) [] (by kernel_rfl) (fun x K => by kernel_rfl)
def E_spec_hDistance (k : Nat) : Tbl := tcons 49 (ftab (.c (.val (.st (.pair (.int .i64) (.int .i64)))) (.c (.val (.st (.pair (.int .i64) (.int .i64)))) .e)) (F_spec_hDistance k)) (E_spec_l1Abs k)
theorem E_spec_hDistance_ok (k : Nat) : SoundE Try.prog glob (E_spec_hDistance k) ∧ NatE (E_spec_hDistance k) := ⟨tcons_sound (s_spec_hDistance k) (E_spec_l1Abs_ok k).1, tcons_nat (s_spec_hDistance k) (E_spec_l1Abs_ok k).2⟩
/-- spec.NearestAlong -/
def cx_spec_NearestAlong : Cx := { N := 41, G := glob, C := tys, ad := fun d => false, wk := false }
def sp_spec_NearestAlong_l0 : LSp where
  cv := []
  ts := [(0, .val (.sl (.st (.pair (.int .i64) (.int .i64))))), (3, .ptr 3), (6, .val (.int .i64)), (18, .val (.sl (.st (.pair (.int .i64) (.int .i64))))), (19, .val (.int .i64)), (20, .val (.int .i64))]
  ids := [(3, .box (.st (.pair (.int .i64) (.int .i64))) (.val (.st (.pair (.int .i64) (.int .i64)))))]
  tx := fun e => match e with | .exit i => bif Nat.beq i 0 then [6] else [] | .ret => [4, 5] | .normal => []
  ix := fun e => match e with | .exit i => bif Nat.beq i 0 then [] else [] | .ret => [] | .normal => []
def F_spec_NearestAlong_l0 (k : Nat) : LArg sp_spec_NearestAlong_l0 := fun K n x y => spec_NearestAlong_l0 k (fun (y0 : Int) => K (.exit 0) (mkSt [(6, .val (.int .i64) y0)] [])) (fun (y0 : Int) (y1 : Bool) => K (.ret) (mkSt [(4, .val (.int .i64) y0), (5, .val .bool y1)] [])) n x.1 x.2.2.1 x.2.2.2.1 x.2.2.2.2.1 x.2.2.2.2.2.1 y.1
def LO_spec_NearestAlong_l0 (k : Nat) : LTbl := (lcons 5 (ltab sp_spec_NearestAlong_l0 (F_spec_NearestAlong_l0 k) k) lnil)
theorem lk_spec_NearestAlong_l0 (k : Nat) : LoopsOK Try.prog glob (E_spec_hDistance k) cx_spec_NearestAlong (LO_spec_NearestAlong_l0 k) ((5, (loopB Try.f28 5)) :: []) :=
  LoopsOK.cons (LoopsOK.nil) (E_spec_hDistance_ok k).2 (F := F_spec_NearestAlong_l0 k) k [] (by kernel_rfl) (by kernel_rfl) (fun K x y => rfl) (fun n x y K => by kernel_rfl)
def F_spec_NearestAlong (k : Nat) : FArg (.c (.val (.sl (.st (.pair (.int .i64) (.int .i64))))) (.c (.val (.st (.pair (.int .i64) (.int .i64)))) .e)) := fun x K => spec_NearestAlong k x.1 x.2.1 (fun (r0 : Int) (r1 : Bool) => K [⟨(.int .i64), r0, true⟩, ⟨.bool, r1, true⟩])
theorem s_spec_NearestAlong (k : Nat) : SoundF Try.prog glob 28 (ftab (.c (.val (.sl (.st (.pair (.int .i64) (.int .i64))))) (.c (.val (.st (.pair (.int .i64) (.int .i64)))) .e)) (F_spec_NearestAlong k)) :=
  fun_ok (cx := cx_spec_NearestAlong) (by kernel_rfl) ⟨types, (E_spec_hDistance_ok k).1, (E_spec_hDistance_ok k).2, mixed, rfl⟩ Try.func28 rfl (lk_spec_NearestAlong_l0 k) [0] (by kernel_rfl) (fun x K => by kernel_rfl)
def E_spec_NearestAlong (k : Nat) : Tbl := tcons 28 (ftab (.c (.val (.sl (.st (.pair (.int .i64) (.int .i64))))) (.c (.val (.st (.pair (.int .i64) (.int .i64)))) .e)) (F_spec_NearestAlong k)) (E_spec_hDistance k)
theorem E_spec_NearestAlong_ok (k : Nat) : SoundE Try.prog glob (E_spec_NearestAlong k) ∧ NatE (E_spec_NearestAlong k) := ⟨tcons_sound (s_spec_NearestAlong k) (E_spec_hDistance_ok k).1, tcons_nat (s_spec_NearestAlong k) (E_spec_hDistance_ok k).2⟩
/-- impl.inRange -/
def cx_impl_inRange : Cx := { N := 15, G := glob, C := tys, ad := fun d => false, wk := false }
def F_impl_inRange (k : Nat) : FArg (.c (.val (.int .i64)) (.c (.val (.int .i64)) (.c (.val (.int .i64)) .e))) := fun x K => impl_inRange x.1 x.2.1 x.2.2.1 (fun (r0 : Bool) => K [⟨.bool, r0, true⟩])
theorem s_impl_inRange (k : Nat) : SoundF Try.prog glob 42 (ftab (.c (.val (.int .i64)) (.c (.val (.int .i64)) (.c (.val (.int .i64)) .e))) (F_impl_inRange k)) :=
  fun_ok (cx := cx_impl_inRange) (by kernel_rfl) ⟨types, (E_spec_NearestAlong_ok k).1, (E_spec_NearestAlong_ok k).2, mixed, rfl⟩ Try.func42 rfl (LoopsOK.nil) [] (by kernel_rfl) (fun x K => by kernel_rfl)
def E_impl_inRange (k : Nat) : Tbl := tcons 42 (ftab (.c (.val (.int .i64)) (.c (.val (.int .i64)) (.c (.val (.int .i64)) .e))) (F_impl_inRange k)) (E_spec_NearestAlong k)
theorem E_impl_inRange_ok (k : Nat) : SoundE Try.prog glob (E_impl_inRange k) ∧ NatE (E_impl_inRange k) := ⟨tcons_sound (s_impl_inRange k) (E_spec_NearestAlong_ok k).1, tcons_nat (s_impl_inRange k) (E_spec_NearestAlong_ok k).2⟩
/-- impl.IsHex -/
def cx_impl_IsHex : Cx := { N := 11, G := glob, C := tys, ad := fun d => false, wk := false }
def F_impl_IsHex (k : Nat) : FArg (.c (.val (.st (.pair (.int .i64) (.int .i64)))) .e) := fun x K => impl_IsHex x.1 (fun (r0 : Bool) => K [⟨.bool, r0, true⟩])
theorem s_impl_IsHex (k : Nat) : SoundF Try.prog glob 15 (ftab (.c (.val (.st (.pair (.int .i64) (.int .i64)))) .e) (F_impl_IsHex k)) :=
  fun_ok (cx := cx_impl_IsHex) (by kernel_rfl) ⟨types, (E_impl_inRange_ok k).1, (E_impl_inRange_ok k).2, mixed, rfl⟩ Try.func15 rfl (LoopsOK.nil) [] (by kernel_rfl) (fun x K => by kernel_rfl)
def E_impl_IsHex (k : Nat) : Tbl := tcons 15 (ftab (.c (.val (.st (.pair (.int .i64) (.int .i64)))) .e) (F_impl_IsHex k)) (E_impl_inRange k)
theorem E_impl_IsHex_ok (k : Nat) : SoundE Try.prog glob (E_impl_IsHex k) ∧ NatE (E_impl_IsHex k) := ⟨tcons_sound (s_impl_IsHex k) (E_impl_inRange_ok k).1, tcons_nat (s_impl_IsHex k) (E_impl_inRange_ok k).2⟩
/-- impl.allHexes -/
def cx_impl_allHexes : Cx := { N := 15, G := glob, C := tys, ad := fun d => false, wk := false }
def sp_impl_allHexes_l0 : LSp where
  cv := []
  ts := [(5, .val (.sl (.st (.pair (.int .i64) (.int .i64))))), (6, .val (.int .i64)), (7, .val (.int .i64))]
  ids := []
  tx := fun e => match e with | .exit i => bif Nat.beq i 0 then [] else [] | .ret => [2] | .normal => []
  ix := fun e => match e with | .exit i => bif Nat.beq i 0 then [] else [] | .ret => [] | .normal => []
def F_impl_allHexes_l0 (k : Nat) : LArg sp_impl_allHexes_l0 := fun K n x y => impl_allHexes_l0 k (K (.exit 0) (mkSt [] [])) (fun (y0 : Bool) => K (.ret) (mkSt [(2, .val .bool y0)] [])) n x.1 x.2.1 x.2.2.1
def LO_impl_allHexes_l0 (k : Nat) : LTbl := (lcons 2 (ltab sp_impl_allHexes_l0 (F_impl_allHexes_l0 k) k) lnil)
theorem lk_impl_allHexes_l0 (k : Nat) : LoopsOK Try.prog glob (E_impl_IsHex k) cx_impl_allHexes (LO_impl_allHexes_l0 k) ((2, (loopB Try.f51 2)) :: []) :=
  LoopsOK.cons (LoopsOK.nil) (E_impl_IsHex_ok k).2 (F := F_impl_allHexes_l0 k) k [] (by kernel_rfl) (by kernel_rfl) (fun K x y => rfl) (fun n x y K => by kernel_rfl)
def F_impl_allHexes (k : Nat) : FArg (.c (.val (.sl (.st (.pair (.int .i64) (.int .i64))))) .e) := fun x K => impl_allHexes k x.1 (fun (r0 : Bool) => K [⟨.bool, r0, true⟩])
theorem s_impl_allHexes (k : Nat) : SoundF Try.prog glob 51 (ftab (.c (.val (.sl (.st (.pair (.int .i64) (.int .i64))))) .e) (F_impl_allHexes k)) :=
  fun_ok (cx := cx_impl_allHexes) (by kernel_rfl) ⟨types, (E_impl_IsHex_ok k).1, (E_impl_IsHex_ok k).2, mixed, rfl⟩ Try.func51 rfl (lk_impl_allHexes_l0 k) [0] (by kernel_rfl) (fun x K => by kernel_rfl)
def E_impl_allHexes (k : Nat) : Tbl := tcons 51 (ftab (.c (.val (.sl (.st (.pair (.int .i64) (.int .i64))))) .e) (F_impl_allHexes k)) (E_impl_IsHex k)
theorem E_impl_allHexes_ok (k : Nat) : SoundE Try.prog glob (E_impl_allHexes k) ∧ NatE (E_impl_allHexes k) := ⟨tcons_sound (s_impl_allHexes k) (E_impl_IsHex_ok k).1, tcons_nat (s_impl_allHexes k) (E_impl_IsHex_ok k).2⟩
/-- impl.absOf -/
def cx_impl_absOf : Cx := { N := 8, G := glob, C := tys, ad := fun d => false, wk := false }
def F_impl_absOf (k : Nat) : FArg (.c (.val (.int .i64)) .e) := fun x K => impl_absOf x.1 (fun (r0 : Int) => K [⟨(.int .i64), r0, true⟩])
theorem s_impl_absOf (k : Nat) : SoundF Try.prog glob 57 (ftab (.c (.val (.int .i64)) .e) (F_impl_absOf k)) :=
  fun_ok (cx := cx_impl_absOf) (by kernel_rfl) ⟨types, (E_impl_allHexes_ok k).1, (E_impl_allHexes_ok k).2, mixed, rfl⟩ Try.func57 rfl (LoopsOK.nil) [] (by kernel_rfl) (fun x K => by kernel_rfl)
def E_impl_absOf (k : Nat) : Tbl := tcons 57 (ftab (.c (.val (.int .i64)) .e) (F_impl_absOf k)) (E_impl_allHexes k)
theorem E_impl_absOf_ok (k : Nat) : SoundE Try.prog glob (E_impl_absOf k) ∧ NatE (E_impl_absOf k) := ⟨tcons_sound (s_impl_absOf k) (E_impl_allHexes_ok k).1, tcons_nat (s_impl_absOf k) (E_impl_allHexes_ok k).2⟩
/-- impl.distance -/
def cx_impl_distance : Cx := { N := 28, G := glob, C := tys, ad := fun d => false, wk := false }
def F_impl_distance (k : Nat) : FArg (.c (.val (.st (.pair (.int .i64) (.int .i64)))) (.c (.val (.st (.pair (.int .i64) (.int .i64)))) .e)) := fun x K => impl_distance x.1 x.2.1 (fun (r0 : Int) => K [⟨(.int .i64), r0, true⟩])
theorem s_impl_distance (k : Nat) : SoundF Try.prog glob 50 (ftab (.c (.val (.st (.pair (.int .i64) (.int .i64)))) (.c (.val (.st (.pair (.int .i64) (.int .i64)))) .e)) (F_impl_distance k)) :=
  fun_ok (cx := cx_impl_distance) (by kernel_rfl) ⟨types, (E_impl_absOf_ok k).1, (E_impl_absOf_ok k).2, mixed, rfl⟩ Try.func50 rfl (LoopsOK.nil) [] (by kernel_rfl) (fun x K => by kernel_rfl)
def E_impl_distance (k : Nat) : Tbl := tcons 50 (ftab (.c (.val (.st (.pair (.int .i64) (.int .i64)))) (.c (.val (.st (.pair (.int .i64) (.int .i64)))) .e)) (F_impl_distance k)) (E_impl_absOf k)
theorem E_impl_distance_ok (k : Nat) : SoundE Try.prog glob (E_impl_distance k) ∧ NatE (E_impl_distance k) := ⟨tcons_sound (s_impl_distance k) (E_impl_absOf_ok k).1, tcons_nat (s_impl_distance k) (E_impl_absOf_ok k).2⟩
/-- impl.NearestAlong -/
def cx_impl_NearestAlong : Cx := { N := 47, G := glob, C := tys, ad := fun d => false, wk := false }
def sp_impl_NearestAlong_l0 : LSp where
  cv := []
  ts := [(0, .val (.sl (.st (.pair (.int .i64) (.int .i64))))), (3, .ptr 3), (6, .val (.int .i64)), (27, .val (.int .i64)), (28, .val (.int .i64))]
  ids := [(3, .box (.st (.pair (.int .i64) (.int .i64))) (.val (.st (.pair (.int .i64) (.int .i64)))))]
  tx := fun e => match e with | .exit i => bif Nat.beq i 0 then [6] else [] | .ret => [] | .normal => []
  ix := fun e => match e with | .exit i => bif Nat.beq i 0 then [] else [] | .ret => [] | .normal => []
def F_impl_NearestAlong_l0 (k : Nat) : LArg sp_impl_NearestAlong_l0 := fun K n x y => impl_NearestAlong_l0 k (fun (y0 : Int) => K (.exit 0) (mkSt [(6, .val (.int .i64) y0)] [])) n x.1 x.2.2.1 x.2.2.2.1 x.2.2.2.2.1 y.1
def LO_impl_NearestAlong_l0 (k : Nat) : LTbl := (lcons 5 (ltab sp_impl_NearestAlong_l0 (F_impl_NearestAlong_l0 k) k) lnil)
theorem lk_impl_NearestAlong_l0 (k : Nat) : LoopsOK Try.prog glob (E_impl_distance k) cx_impl_NearestAlong (LO_impl_NearestAlong_l0 k) ((5, (loopB Try.f30 5)) :: []) :=
  LoopsOK.cons (LoopsOK.nil) (E_impl_distance_ok k).2 (F := F_impl_NearestAlong_l0 k) k [] (by kernel_rfl) (by kernel_rfl) (fun K x y => rfl) (fun n x y K => by kernel_rfl)
def F_impl_NearestAlong (k : Nat) : FArg (.c (.val (.sl (.st (.pair (.int .i64) (.int .i64))))) (.c (.val (.st (.pair (.int .i64) (.int .i64)))) .e)) := fun x K => impl_NearestAlong k x.1 x.2.1 (fun (r0 : Int) (r1 : Bool) => K [⟨(.int .i64), r0, true⟩, ⟨.bool, r1, true⟩])
theorem s_impl_NearestAlong (k : Nat) : SoundF Try.prog glob 30 (ftab (.c (.val (.sl (.st (.pair (.int .i64) (.int .i64))))) (.c (.val (.st (.pair (.int .i64) (.int .i64)))) .e)) (F_impl_NearestAlong k)) :=
  fun_ok (cx := cx_impl_NearestAlong) (by kernel_rfl) ⟨types, (E_impl_distance_ok k).1, (E_impl_distance_ok k).2, mixed, rfl⟩ Try.func30 rfl (lk_impl_NearestAlong_l0 k) [0] (by kernel_rfl) (fun x K => by kernel_rfl)
def E_impl_NearestAlong (k : Nat) : Tbl := tcons 30 (ftab (.c (.val (.sl (.st (.pair (.int .i64) (.int .i64))))) (.c (.val (.st (.pair (.int .i64) (.int .i64)))) .e)) (F_impl_NearestAlong k)) (E_impl_distance k)
theorem E_impl_NearestAlong_ok (k : Nat) : SoundE Try.prog glob (E_impl_NearestAlong k) ∧ NatE (E_impl_NearestAlong k) := ⟨tcons_sound (s_impl_NearestAlong k) (E_impl_distance_ok k).1, tcons_nat (s_impl_NearestAlong k) (E_impl_distance_ok k).2⟩
/-- laws.eqHex -/
def cx_laws_eqHex : Cx := { N := 15, G := glob, C := tys, ad := fun d => false, wk := false }
def F_laws_eqHex (k : Nat) : FArg (.c (.val (.st (.pair (.int .i64) (.int .i64)))) (.c (.val (.st (.pair (.int .i64) (.int .i64)))) .e)) := fun x K => laws_eqHex x.1 x.2.1 (fun (r0 : Bool) => K [⟨.bool, r0, true⟩])
theorem s_laws_eqHex (k : Nat) : SoundF Try.prog glob 22 (ftab (.c (.val (.st (.pair (.int .i64) (.int .i64)))) (.c (.val (.st (.pair (.int .i64) (.int .i64)))) .e)) (F_laws_eqHex k)) :=
  fun_ok (cx := cx_laws_eqHex) (by kernel_rfl) ⟨types, (E_impl_NearestAlong_ok k).1, (E_impl_NearestAlong_ok k).2, mixed, rfl⟩ Try.func22 rfl (LoopsOK.nil) [] (by kernel_rfl) (fun x K => by kernel_rfl)
def E_laws_eqHex (k : Nat) : Tbl := tcons 22 (ftab (.c (.val (.st (.pair (.int .i64) (.int .i64)))) (.c (.val (.st (.pair (.int .i64) (.int .i64)))) .e)) (F_laws_eqHex k)) (E_impl_NearestAlong k)
theorem E_laws_eqHex_ok (k : Nat) : SoundE Try.prog glob (E_laws_eqHex k) ∧ NatE (E_laws_eqHex k) := ⟨tcons_sound (s_laws_eqHex k) (E_impl_NearestAlong_ok k).1, tcons_nat (s_laws_eqHex k) (E_impl_NearestAlong_ok k).2⟩
/-- laws.eqHexS -/
def cx_laws_eqHexS : Cx := { N := 27, G := glob, C := tys, ad := fun d => false, wk := false }
def sp_laws_eqHexS_l0 : LSp where
  cv := []
  ts := [(0, .val (.sl (.st (.pair (.int .i64) (.int .i64))))), (1, .val (.sl (.st (.pair (.int .i64) (.int .i64))))), (5, .val (.int .i64))]
  ids := []
  tx := fun e => match e with | .exit i => bif Nat.beq i 0 then [] else [] | .ret => [4] | .normal => []
  ix := fun e => match e with | .exit i => bif Nat.beq i 0 then [] else [] | .ret => [] | .normal => []
def F_laws_eqHexS_l0 (k : Nat) : LArg sp_laws_eqHexS_l0 := fun K n x y => laws_eqHexS_l0 k (K (.exit 0) (mkSt [] [])) (fun (y0 : Bool) => K (.ret) (mkSt [(4, .val .bool y0)] [])) n x.1 x.2.1 x.2.2.1
def LO_laws_eqHexS_l0 (k : Nat) : LTbl := (lcons 4 (ltab sp_laws_eqHexS_l0 (F_laws_eqHexS_l0 k) k) lnil)
theorem lk_laws_eqHexS_l0 (k : Nat) : LoopsOK Try.prog glob (E_laws_eqHex k) cx_laws_eqHexS (LO_laws_eqHexS_l0 k) ((4, (loopB Try.f31 4)) :: []) :=
  LoopsOK.cons (LoopsOK.nil) (E_laws_eqHex_ok k).2 (F := F_laws_eqHexS_l0 k) k [] (by kernel_rfl) (by kernel_rfl) (fun K x y => rfl) (fun n x y K => by kernel_rfl)
def F_laws_eqHexS (k : Nat) : FArg (.c (.val (.sl (.st (.pair (.int .i64) (.int .i64))))) (.c (.val (.sl (.st (.pair (.int .i64) (.int .i64))))) .e)) := fun x K => laws_eqHexS k x.1 x.2.1 (fun (r0 : Bool) => K [⟨.bool, r0, true⟩])
theorem s_laws_eqHexS (k : Nat) : SoundF Try.prog glob 31 (ftab (.c (.val (.sl (.st (.pair (.int .i64) (.int .i64))))) (.c (.val (.sl (.st (.pair (.int .i64) (.int .i64))))) .e)) (F_laws_eqHexS k)) :=
  fun_ok (cx := cx_laws_eqHexS) (by kernel_rfl) ⟨types, (E_laws_eqHex_ok k).1, (E_laws_eqHex_ok k).2, mixed, rfl⟩ Try.func31 rfl (lk_laws_eqHexS_l0 k) [0] (by kernel_rfl) (fun x K => by kernel_rfl)
def E_laws_eqHexS (k : Nat) : Tbl := tcons 31 (ftab (.c (.val (.sl (.st (.pair (.int .i64) (.int .i64))))) (.c (.val (.sl (.st (.pair (.int .i64) (.int .i64))))) .e)) (F_laws_eqHexS k)) (E_laws_eqHex k)
theorem E_laws_eqHexS_ok (k : Nat) : SoundE Try.prog glob (E_laws_eqHexS k) ∧ NatE (E_laws_eqHexS k) := ⟨tcons_sound (s_laws_eqHexS k) (E_laws_eqHex_ok k).1, tcons_nat (s_laws_eqHexS k) (E_laws_eqHex_ok k).2⟩
/-- laws.FnExactNearestAlong -/
def cx_laws_FnExactNearestAlong : Cx := { N := 46, G := glob, C := tys, ad := fun d => false, wk := false }
def F_laws_FnExactNearestAlong (k : Nat) : FArg (.c (.val (.sl (.st (.pair (.int .i64) (.int .i64))))) (.c (.val (.st (.pair (.int .i64) (.int .i64)))) .e)) := fun x K => laws_FnExactNearestAlong k x.1 x.2.1 (fun (r0 : Bool) => K [⟨.bool, r0, true⟩])
theorem s_laws_FnExactNearestAlong (k : Nat) : SoundF Try.prog glob 10 (ftab (.c (.val (.sl (.st (.pair (.int .i64) (.int .i64))))) (.c (.val (.st (.pair (.int .i64) (.int .i64)))) .e)) (F_laws_FnExactNearestAlong k)) :=
  fun_ok (cx := cx_laws_FnExactNearestAlong) (by kernel_rfl) ⟨types, (E_laws_eqHexS_ok k).1, (E_laws_eqHexS_ok k).2, mixed, rfl⟩ Try.func10 rfl (LoopsOK.nil) [] (by kernel_rfl) (fun x K => by kernel_rfl)
def E_laws_FnExactNearestAlong (k : Nat) : Tbl := tcons 10 (ftab (.c (.val (.sl (.st (.pair (.int .i64) (.int .i64))))) (.c (.val (.st (.pair (.int .i64) (.int .i64)))) .e)) (F_laws_FnExactNearestAlong k)) (E_laws_eqHexS k)
theorem E_laws_FnExactNearestAlong_ok (k : Nat) : SoundE Try.prog glob (E_laws_FnExactNearestAlong k) ∧ NatE (E_laws_FnExactNearestAlong k) := ⟨tcons_sound (s_laws_FnExactNearestAlong k) (E_laws_eqHexS_ok k).1, tcons_nat (s_laws_FnExactNearestAlong k) (E_laws_eqHexS_ok k).2⟩
end Go.Proofs.Ytpaikmmncnigkaa.TieNearestAlong
