/- The program's tables, as plain values. -/
import Derived.Test.YtpaikmmncnigkaaEv1
import Derived.Test.YtpaikmmncnigkaaEv2
import Derived.IntWalk
set_option linter.unusedVariables false
set_option linter.unusedSimpArgs false
set_option linter.unusedSectionVars false
namespace Go.Lg
open Go Go.Ev
def impl_directions : List (Int × Int) := [((1 : Int), (0 : Int)), ((1 : Int), (-1 : Int)), ((0 : Int), (-1 : Int)), ((-1 : Int), (0 : Int)), ((-1 : Int), (1 : Int)), ((0 : Int), (1 : Int))]
end Go.Lg
set_option linter.unusedVariables false
namespace Go.Lg
open Go Go.Ev
/-- laws.toHex -/
def laws_toHex (a : Int × Int) {R : Type} (K : (Int × Int) → Option R) : Option R :=
  K (a.1, a.2)
/-- spec.l1In -/
def spec_l1In (n_0 : Int) (lo : Int) (hi : Int) {R : Type} (K : Bool → Option R) : Option R :=
  bif decide (lo ≤ n_0) then
    K (decide (n_0 ≤ hi))
  else
    K false
/-- spec.hGood -/
def spec_hGood (h : Int × Int) {R : Type} (K : Bool → Option R) : Option R :=
  spec_l1In h.1 (-40 : Int) (40 : Int) fun (r : Bool) =>
  bif r then
    spec_l1In h.2 (-40 : Int) (40 : Int) fun (r0 : Bool) =>
    K r0
  else
    K false
/-- spec.IsHex -/
def spec_IsHex (h : Int × Int) {R : Type} (K : Bool → Option R) : Option R :=
  spec_hGood h fun (r : Bool) =>
  K r
/-- impl.inRange -/
def impl_inRange (n_0 : Int) (low : Int) (high : Int) {R : Type} (K : Bool → Option R) : Option R :=
  bif decide (low ≤ n_0) then
    K (decide (n_0 ≤ high))
  else
    K false
/-- impl.IsHex -/
def impl_IsHex (h : Int × Int) {R : Type} (K : Bool → Option R) : Option R :=
  impl_inRange h.1 (-40 : Int) (40 : Int) fun (r : Bool) =>
  bif r then
    impl_inRange h.2 (-40 : Int) (40 : Int) fun (r0 : Bool) =>
    K r0
  else
    K false
/-- laws.FnExactIsHex -/
def laws_FnExactIsHex (aH : Int × Int) {R : Type} (K : Bool → Option R) : Option R :=
  laws_toHex aH fun (r : Int × Int) =>
  spec_IsHex r fun (r0 : Bool) =>
  laws_toHex aH fun (r1 : Int × Int) =>
  impl_IsHex r1 fun (r2 : Bool) =>
  bif !(r2 == r0) then
    K false
  else
    K true
/-- spec.hIf -/
def spec_hIf (h : Int × Int) {R : Type} (K : (Int × Int) → Bool → Option R) : Option R :=
  spec_hGood h fun (r : Bool) =>
  bif !r then
    K ((0 : Int), (0 : Int)) false
  else
    K h true
/-- spec.MirrorHex -/
def spec_MirrorHex (h : Int × Int) (centre : Int × Int) {R : Type} (K : (Int × Int) → Bool → Option R) : Option R :=
  spec_hGood h fun (r : Bool) =>
  bif !r then
    K ((0 : Int), (0 : Int)) false
  else
    spec_hGood centre fun (r0 : Bool) =>
    bif !r0 then
      K ((0 : Int), (0 : Int)) false
    else
      spec_hIf (IntKind.wrap .i64 ((IntKind.wrap .i64 (centre.1 + h.2)) - centre.2), IntKind.wrap .i64 ((IntKind.wrap .i64 (centre.2 + h.1)) - centre.1)) fun (r1 : Int × Int) (r2 : Bool) =>
      K r1 r2
/-- impl.checkedHex -/
def impl_checkedHex (h : Int × Int) {R : Type} (K : (Int × Int) → Bool → Option R) : Option R :=
  impl_IsHex h fun (r : Bool) =>
  bif !r then
    K ((0 : Int), (0 : Int)) false
  else
    K h true
/-- impl.MirrorHex -/
def impl_MirrorHex (h : Int × Int) (centre : Int × Int) {R : Type} (K : (Int × Int) → Bool → Option R) : Option R :=
  impl_IsHex h fun (r : Bool) =>
  bif !r then
    K ((0 : Int), (0 : Int)) false
  else
    impl_IsHex centre fun (r0 : Bool) =>
    bif !r0 then
      K ((0 : Int), (0 : Int)) false
    else
      impl_checkedHex (IntKind.wrap .i64 ((IntKind.wrap .i64 (centre.1 + h.2)) - centre.2), IntKind.wrap .i64 ((IntKind.wrap .i64 (centre.2 + h.1)) - centre.1)) fun (r1 : Int × Int) (r2 : Bool) =>
      K r1 r2
/-- laws.eqHex -/
def laws_eqHex (a : Int × Int) (b : Int × Int) {R : Type} (K : Bool → Option R) : Option R :=
  bif !(decide (a.1 = b.1)) then
    K false
  else
    bif !(decide (a.2 = b.2)) then
      K false
    else
      K true
/-- laws.FnExactMirrorHex -/
def laws_FnExactMirrorHex (aH : Int × Int) (aCentre : Int × Int) {R : Type} (K : Bool → Option R) : Option R :=
  laws_toHex aH fun (r : Int × Int) =>
  laws_toHex aCentre fun (r0 : Int × Int) =>
  spec_MirrorHex r r0 fun (r1 : Int × Int) (r2 : Bool) =>
  laws_toHex aH fun (r3 : Int × Int) =>
  laws_toHex aCentre fun (r4 : Int × Int) =>
  impl_MirrorHex r3 r4 fun (r5 : Int × Int) (r6 : Bool) =>
  laws_eqHex r5 r1 fun (r7 : Bool) =>
  bif !r7 then
    K false
  else
    bif !(r6 == r2) then
      K false
    else
      K true
/-- spec.l1Most -/
def spec_l1Most (a : Int) (b : Int) {R : Type} (K : Int → Option R) : Option R :=
  bif decide (b < a) then
    K a
  else
    K b
/-- spec.l1Abs -/
def spec_l1Abs (n_0 : Int) {R : Type} (K : Int → Option R) : Option R :=
  spec_l1Most n_0 (IntKind.wrap .i64 (0 - n_0)) fun (r : Int) =>
  K r
/-- spec.hDistance -/
def spec_hDistance (a : Int × Int) (b : Int × Int) {R : Type} (K : Int → Option R) : Option R :=
  spec_l1Abs (IntKind.wrap .i64 (b.1 - a.1)) fun (r : Int) =>
  spec_l1Abs (IntKind.wrap .i64 (b.2 - a.2)) fun (r0 : Int) =>
  spec_l1Abs (IntKind.wrap .i64 ((IntKind.wrap .i64 (b.1 - a.1)) + (IntKind.wrap .i64 (b.2 - a.2)))) fun (r1 : Int) =>
  K (IntKind.wrap .i64 (Int.tdiv (IntKind.wrap .i64 ((IntKind.wrap .i64 (r + r0)) + r1)) (2 : Int)))
/-- spec.DistanceOf -/
def spec_DistanceOf (a : Int × Int) (b : Int × Int) {R : Type} (K : Int → Bool → Option R) : Option R :=
  spec_hGood a fun (r : Bool) =>
  bif !r then
    K (0 : Int) false
  else
    spec_hGood b fun (r0 : Bool) =>
    bif !r0 then
      K (0 : Int) false
    else
      spec_hDistance a b fun (r1 : Int) =>
      K r1 true
/-- impl.absOf -/
def impl_absOf (n_0 : Int) {R : Type} (K : Int → Option R) : Option R :=
  bif decide (n_0 < (0 : Int)) then
    K (IntKind.wrap .i64 (0 - n_0))
  else
    K n_0
/-- impl.distance -/
def impl_distance (a : Int × Int) (b : Int × Int) {R : Type} (K : Int → Option R) : Option R :=
  impl_absOf (IntKind.wrap .i64 (b.1 - a.1)) fun (r : Int) =>
  impl_absOf (IntKind.wrap .i64 (b.2 - a.2)) fun (r0 : Int) =>
  impl_absOf (IntKind.wrap .i64 ((IntKind.wrap .i64 (b.1 - a.1)) + (IntKind.wrap .i64 (b.2 - a.2)))) fun (r1 : Int) =>
  K (IntKind.wrap .i64 (Int.tdiv (IntKind.wrap .i64 ((IntKind.wrap .i64 (r + r0)) + r1)) (2 : Int)))
/-- impl.DistanceOf -/
def impl_DistanceOf (a : Int × Int) (b : Int × Int) {R : Type} (K : Int → Bool → Option R) : Option R :=
  impl_IsHex a fun (r : Bool) =>
  bif !r then
    K (0 : Int) false
  else
    impl_IsHex b fun (r0 : Bool) =>
    bif !r0 then
      K (0 : Int) false
    else
      impl_distance a b fun (r1 : Int) =>
      K r1 true
/-- laws.FnExactDistanceOf -/
def laws_FnExactDistanceOf (aA : Int × Int) (aB : Int × Int) {R : Type} (K : Bool → Option R) : Option R :=
  laws_toHex aA fun (r : Int × Int) =>
  laws_toHex aB fun (r0 : Int × Int) =>
  spec_DistanceOf r r0 fun (r1 : Int) (r2 : Bool) =>
  laws_toHex aA fun (r3 : Int × Int) =>
  laws_toHex aB fun (r4 : Int × Int) =>
  impl_DistanceOf r3 r4 fun (r5 : Int) (r6 : Bool) =>
  bif !(decide (r5 = r1)) then
    K false
  else
    bif !(r6 == r2) then
      K false
    else
      K true
/-- spec.TurnHex -/
def spec_TurnHex_l0 (k : Nat) {R : Type} (K0 : Int → Int → (Int × Int) → (Int × Int) → Option R) : Nat → Int → Int → Int → (Int × Int) → (Int × Int) → Option R
  | 0, _, _, _, _, _ => none
  | m + 1, k_0, q, r2, centre0, x =>
    bif decide ((0 : Int) < k_0) then
      spec_TurnHex_l0 k K0 m (IntKind.wrap .i64 (k_0 - (1 : Int))) (IntKind.wrap .i64 (0 - r2)) (IntKind.wrap .i64 (q + r2)) centre0 x
    else
      K0 q r2 centre0 x
def spec_TurnHex (k : Nat) (h : Int × Int) (centre : Int × Int) (k_ : Int) {R : Type} (K : (Int × Int) → Bool → Option R) : Option R :=
  spec_hGood h fun (r : Bool) =>
  bif !r then
    K ((0 : Int), (0 : Int)) false
  else
    spec_hGood centre fun (r0 : Bool) =>
    bif !r0 then
      K ((0 : Int), (0 : Int)) false
    else
      spec_l1In k_ (0 : Int) (5 : Int) fun (r1 : Bool) =>
      bif !r1 then
        K ((0 : Int), (0 : Int)) false
      else
        spec_TurnHex_l0 k (fun (q0 : Int) (r3 : Int) (centre1 : Int × Int) (x0 : Int × Int) =>
          spec_hIf (IntKind.wrap .i64 (centre1.1 + q0), IntKind.wrap .i64 (centre1.2 + r3)) fun (r4 : Int × Int) (r5 : Bool) =>
          K r4 r5) k k_ (IntKind.wrap .i64 (h.1 - centre.1)) (IntKind.wrap .i64 (h.2 - centre.2)) centre ((0 : Int), (0 : Int))
/-- impl.TurnHex -/
def impl_TurnHex_l0 (k : Nat) {R : Type} (K0 : Int → Int → (Int × Int) → (Int × Int) → Option R) : Nat → Int → Int → Int → Int → (Int × Int) → (Int × Int) → Option R
  | 0, _, _, _, _, _, _ => none
  | m + 1, q, r2, x, x0, centre0, x1 =>
    bif decide (x0 < x) then
      impl_TurnHex_l0 k K0 m (IntKind.wrap .i64 (0 - r2)) (IntKind.wrap .i64 (q + r2)) x (IntKind.wrap .i64 (x0 + (1 : Int))) centre0 x1
    else
      K0 q r2 centre0 x1
def impl_TurnHex (k : Nat) (h : Int × Int) (centre : Int × Int) (k_ : Int) {R : Type} (K : (Int × Int) → Bool → Option R) : Option R :=
  impl_IsHex h fun (r : Bool) =>
  bif !r then
    K ((0 : Int), (0 : Int)) false
  else
    impl_IsHex centre fun (r0 : Bool) =>
    bif !r0 then
      K ((0 : Int), (0 : Int)) false
    else
      impl_inRange k_ (0 : Int) (5 : Int) fun (r1 : Bool) =>
      bif !r1 then
        K ((0 : Int), (0 : Int)) false
      else
        impl_TurnHex_l0 k (fun (q0 : Int) (r3 : Int) (centre1 : Int × Int) (x2 : Int × Int) =>
          impl_checkedHex (IntKind.wrap .i64 (centre1.1 + q0), IntKind.wrap .i64 (centre1.2 + r3)) fun (r4 : Int × Int) (r5 : Bool) =>
          K r4 r5) k (IntKind.wrap .i64 (h.1 - centre.1)) (IntKind.wrap .i64 (h.2 - centre.2)) k_ (0 : Int) centre ((0 : Int), (0 : Int))
/-- laws.FnExactTurnHex -/
def laws_FnExactTurnHex (k : Nat) (aH : Int × Int) (aCentre : Int × Int) (aK : Int) {R : Type} (K : Bool → Option R) : Option R :=
  laws_toHex aH fun (r : Int × Int) =>
  laws_toHex aCentre fun (r0 : Int × Int) =>
  spec_TurnHex k r r0 aK fun (r1 : Int × Int) (r2 : Bool) =>
  laws_toHex aH fun (r3 : Int × Int) =>
  laws_toHex aCentre fun (r4 : Int × Int) =>
  impl_TurnHex k r3 r4 aK fun (r5 : Int × Int) (r6 : Bool) =>
  laws_eqHex r5 r1 fun (r7 : Bool) =>
  bif !r7 then
    K false
  else
    bif !(r6 == r2) then
      K false
    else
      K true
/-- laws.szHexS -/
def laws_szHexS (a : List (Int × Int)) (left : Int) {R : Type} (K : Int → Option R) : Option R :=
  bif decide (IntKind.wrap .i64 (left - ((List.length a : Nat) : Int)) < (0 : Int)) then
    K (-1 : Int)
  else
    K (IntKind.wrap .i64 (left - ((List.length a : Nat) : Int)))
/-- laws.toHexS -/
def laws_toHexS_l0 (k : Nat) {R : Type} (K0 : (List (Int × Int)) → Option R) : Nat → (List (Int × Int)) → Int → (List (Int × Int)) → Option R
  | 0, _, _, _ => none
  | m + 1, a0, i, out =>
    bif decide (i < ((List.length a0 : Nat) : Int)) then
      bif decide ((0 : Int) ≤ i) && decide (i < ((List.length a0 : Nat) : Int)) then
        laws_toHex (List.getD a0 (Int.toNat i) ((0 : Int), (0 : Int))) fun (r : Int × Int) =>
        bif decide ((0 : Int) ≤ i) && decide (i < ((List.length out : Nat) : Int)) then
          laws_toHexS_l0 k K0 m a0 (IntKind.wrap .i64 (i + (1 : Int))) (List.set out (Int.toNat i) r)
        else
          none
      else
        none
    else
      K0 out
def laws_toHexS (k : Nat) (a : List (Int × Int)) {R : Type} (K : (List (Int × Int)) → Option R) : Option R :=
  bif decide ((0 : Int) ≤ ((List.length a : Nat) : Int)) && decide (((List.length a : Nat) : Int) ≤ (137438953472 : Int)) && decide (((List.length a : Nat) : Int) = ((List.length a : Nat) : Int)) then
    laws_toHexS_l0 k (fun (out0 : List (Int × Int)) =>
      K out0) k a (0 : Int) (List.replicate (Int.toNat ((List.length a : Nat) : Int)) ((0 : Int), (0 : Int)))
  else
    none
/-- spec.NearestAlong -/
def spec_NearestAlong_l0 (k : Nat) {R : Type} (K0 : Int → Option R) (K1 : Int → Bool → Option R) : Nat → (List (Int × Int)) → Int → (List (Int × Int)) → Int → Int → (Int × Int) → Option R
  | 0, _, _, _, _, _, _ => none
  | m + 1, list0, best, x, x0, x1, h0 =>
    bif decide (x1 < x0) then
      bif decide ((0 : Int) ≤ x1) && decide (x1 < ((List.length x : Nat) : Int)) then
        spec_hGood (List.getD x (Int.toNat x1) ((0 : Int), (0 : Int))) fun (r1 : Bool) =>
        bif !r1 then
          K1 (0 : Int) false
        else
          spec_hDistance (List.getD x (Int.toNat x1) ((0 : Int), (0 : Int))) h0 fun (r2 : Int) =>
          bif decide ((0 : Int) ≤ best) && decide (best < ((List.length list0 : Nat) : Int)) then
            spec_hDistance (List.getD list0 (Int.toNat best) ((0 : Int), (0 : Int))) h0 fun (r3 : Int) =>
            bif decide (r2 < r3) then
              spec_NearestAlong_l0 k K0 K1 m list0 x1 x x0 (IntKind.wrap .i64 (x1 + (1 : Int))) h0
            else
              spec_NearestAlong_l0 k K0 K1 m list0 best x x0 (IntKind.wrap .i64 (x1 + (1 : Int))) h0
          else
            none
      else
        none
    else
      K0 best
def spec_NearestAlong (k : Nat) (list : List (Int × Int)) (h : Int × Int) {R : Type} (K : Int → Bool → Option R) : Option R :=
  spec_l1In ((List.length list : Nat) : Int) (1 : Int) (60 : Int) fun (r : Bool) =>
  bif !r then
    K (0 : Int) false
  else
    spec_hGood h fun (r0 : Bool) =>
    bif !r0 then
      K (0 : Int) false
    else
      spec_NearestAlong_l0 k (fun (best0 : Int) =>
        K best0 true) (fun (x2 : Int) (x3 : Bool) =>
        K x2 x3) k list (0 : Int) list ((List.length list : Nat) : Int) (0 : Int) h
/-- impl.allHexes -/
def impl_allHexes_l0 (k : Nat) {R : Type} (K0 : Option R) (K1 : Bool → Option R) : Nat → (List (Int × Int)) → Int → Int → Option R
  | 0, _, _, _ => none
  | m + 1, x, x0, x1 =>
    bif decide (x1 < x0) then
      bif decide ((0 : Int) ≤ x1) && decide (x1 < ((List.length x : Nat) : Int)) then
        impl_IsHex (List.getD x (Int.toNat x1) ((0 : Int), (0 : Int))) fun (r : Bool) =>
        bif !r then
          K1 false
        else
          impl_allHexes_l0 k K0 K1 m x x0 (IntKind.wrap .i64 (x1 + (1 : Int)))
      else
        none
    else
      K0
def impl_allHexes (k : Nat) (list : List (Int × Int)) {R : Type} (K : Bool → Option R) : Option R :=
  impl_allHexes_l0 k (
    K true) (fun (x2 : Bool) =>
    K x2) k list ((List.length list : Nat) : Int) (0 : Int)
/-- impl.NearestAlong -/
def impl_NearestAlong_l0 (k : Nat) {R : Type} (K0 : Int → Option R) : Nat → (List (Int × Int)) → Int → Int → Int → (Int × Int) → Option R
  | 0, _, _, _, _, _ => none
  | m + 1, list0, best, x, x0, h0 =>
    bif decide (x0 < x) then
      bif decide ((0 : Int) ≤ x0) && decide (x0 < ((List.length list0 : Nat) : Int)) then
        impl_distance (List.getD list0 (Int.toNat x0) ((0 : Int), (0 : Int))) h0 fun (r1 : Int) =>
        bif decide ((0 : Int) ≤ best) && decide (best < ((List.length list0 : Nat) : Int)) then
          impl_distance (List.getD list0 (Int.toNat best) ((0 : Int), (0 : Int))) h0 fun (r2 : Int) =>
          bif decide (r1 < r2) then
            impl_NearestAlong_l0 k K0 m list0 x0 x (IntKind.wrap .i64 (x0 + (1 : Int))) h0
          else
            impl_NearestAlong_l0 k K0 m list0 best x (IntKind.wrap .i64 (x0 + (1 : Int))) h0
        else
          none
      else
        none
    else
      K0 best
def impl_NearestAlong (k : Nat) (list : List (Int × Int)) (h : Int × Int) {R : Type} (K : Int → Bool → Option R) : Option R :=
  bif decide (((List.length list : Nat) : Int) < (1 : Int)) then
    K (0 : Int) false
  else
    bif decide ((60 : Int) < ((List.length list : Nat) : Int)) then
      K (0 : Int) false
    else
      impl_allHexes k list fun (r : Bool) =>
      bif !r then
        K (0 : Int) false
      else
        impl_IsHex h fun (r0 : Bool) =>
        bif !r0 then
          K (0 : Int) false
        else
          impl_NearestAlong_l0 k (fun (best0 : Int) =>
            K best0 true) k list (0 : Int) ((List.length list : Nat) : Int) (0 : Int) h
/-- laws.eqHexS -/
def laws_eqHexS_l0 (k : Nat) {R : Type} (K0 : Option R) (K1 : Bool → Option R) : Nat → (List (Int × Int)) → (List (Int × Int)) → Int → Option R
  | 0, _, _, _ => none
  | m + 1, a0, b0, i =>
    bif decide (i < ((List.length a0 : Nat) : Int)) then
      bif decide ((0 : Int) ≤ i) && decide (i < ((List.length a0 : Nat) : Int)) then
        bif decide ((0 : Int) ≤ i) && decide (i < ((List.length b0 : Nat) : Int)) then
          laws_eqHex (List.getD a0 (Int.toNat i) ((0 : Int), (0 : Int))) (List.getD b0 (Int.toNat i) ((0 : Int), (0 : Int))) fun (r : Bool) =>
          bif !r then
            K1 false
          else
            laws_eqHexS_l0 k K0 K1 m a0 b0 (IntKind.wrap .i64 (i + (1 : Int)))
        else
          none
      else
        none
    else
      K0
def laws_eqHexS (k : Nat) (a : List (Int × Int)) (b : List (Int × Int)) {R : Type} (K : Bool → Option R) : Option R :=
  bif !(decide (((List.length a : Nat) : Int) = ((List.length b : Nat) : Int))) then
    K false
  else
    laws_eqHexS_l0 k (
      K true) (fun (x : Bool) =>
      K x) k a b (0 : Int)
/-- laws.FnExactNearestAlong -/
def laws_FnExactNearestAlong (k : Nat) (aList : List (Int × Int)) (aH : Int × Int) {R : Type} (K : Bool → Option R) : Option R :=
  laws_szHexS aList (1048576 : Int) fun (r : Int) =>
  bif decide (r < (0 : Int)) then
    K true
  else
    laws_toHexS k aList fun (r0 : List (Int × Int)) =>
    laws_toHex aH fun (r1 : Int × Int) =>
    spec_NearestAlong k r0 r1 fun (r2 : Int) (r3 : Bool) =>
    laws_toHexS k aList fun (r4 : List (Int × Int)) =>
    laws_toHex aH fun (r5 : Int × Int) =>
    impl_NearestAlong k r4 r5 fun (r6 : Int) (r7 : Bool) =>
    bif !(decide (r6 = r2)) then
      K false
    else
      bif !(r7 == r3) then
        K false
      else
        laws_toHexS k aList fun (r8 : List (Int × Int)) =>
        laws_eqHexS k r4 r8 fun (r9 : Bool) =>
        bif !r9 then
          K false
        else
          K true
/-- spec.hStep -/
def spec_hStep (h : Int × Int) (d : Int) {R : Type} (K : (Int × Int) → Option R) : Option R :=
  bif decide ((0 : Int) ≤ d) && decide (d < ((List.length [(1 : Int), (1 : Int), (0 : Int), (-1 : Int), (-1 : Int), (0 : Int)] : Nat) : Int)) then
    bif decide ((0 : Int) ≤ d) && decide (d < ((List.length [(0 : Int), (-1 : Int), (-1 : Int), (0 : Int), (1 : Int), (1 : Int)] : Nat) : Int)) then
      K (IntKind.wrap .i64 (h.1 + (List.getD [(1 : Int), (1 : Int), (0 : Int), (-1 : Int), (-1 : Int), (0 : Int)] (Int.toNat d) (0 : Int))), IntKind.wrap .i64 (h.2 + (List.getD [(0 : Int), (-1 : Int), (-1 : Int), (0 : Int), (1 : Int), (1 : Int)] (Int.toNat d) (0 : Int))))
    else
      none
  else
    none
/-- spec.DirectionTo -/
def spec_DirectionTo_l0 (k : Nat) {R : Type} (K0 : Option R) (K1 : Int → Bool → Option R) : Nat → Int → (Int × Int) → (Int × Int) → Option R
  | 0, _, _, _ => none
  | m + 1, d, a0, b0 =>
    bif decide (d < (6 : Int)) then
      spec_hStep a0 d fun (r1 : Int × Int) =>
      bif (decide (r1.1 = b0.1)) && (decide (r1.2 = b0.2)) then
        K1 d true
      else
        spec_DirectionTo_l0 k K0 K1 m (IntKind.wrap .i64 (d + (1 : Int))) a0 b0
    else
      K0
def spec_DirectionTo (k : Nat) (a : Int × Int) (b : Int × Int) {R : Type} (K : Int → Bool → Option R) : Option R :=
  spec_hGood a fun (r : Bool) =>
  bif !r then
    K (0 : Int) false
  else
    spec_hGood b fun (r0 : Bool) =>
    bif !r0 then
      K (0 : Int) false
    else
      spec_DirectionTo_l0 k (
        K (0 : Int) false) (fun (x : Int) (x0 : Bool) =>
        K x x0) k (0 : Int) a b
/-- impl.stepBy -/
def impl_stepBy (h : Int × Int) (d : Int) (n_0 : Int) {R : Type} (K : (Int × Int) → Option R) : Option R :=
  bif decide ((0 : Int) ≤ d) && decide (d < (6 : Int)) then
    bif decide ((0 : Int) ≤ d) && decide (d < (6 : Int)) then
      K (IntKind.wrap .i64 (h.1 + (IntKind.wrap .i64 (n_0 * (List.getD impl_directions (Int.toNat d) ((0 : Int), (0 : Int))).1))), IntKind.wrap .i64 (h.2 + (IntKind.wrap .i64 (n_0 * (List.getD impl_directions (Int.toNat d) ((0 : Int), (0 : Int))).2))))
    else
      none
  else
    none
/-- impl.DirectionTo -/
def impl_DirectionTo_l0 (k : Nat) {R : Type} (K0 : Option R) (K1 : Int → Bool → Option R) : Nat → Int → (Int × Int) → (Int × Int) → Option R
  | 0, _, _, _ => none
  | m + 1, x, a0, b0 =>
    bif decide (x < (6 : Int)) then
      impl_stepBy a0 x (1 : Int) fun (r1 : Int × Int) =>
      bif (decide (r1.1 = b0.1)) && (decide (r1.2 = b0.2)) then
        K1 x true
      else
        impl_DirectionTo_l0 k K0 K1 m (IntKind.wrap .i64 (x + (1 : Int))) a0 b0
    else
      K0
def impl_DirectionTo (k : Nat) (a : Int × Int) (b : Int × Int) {R : Type} (K : Int → Bool → Option R) : Option R :=
  impl_IsHex a fun (r : Bool) =>
  bif !r then
    K (0 : Int) false
  else
    impl_IsHex b fun (r0 : Bool) =>
    bif !r0 then
      K (0 : Int) false
    else
      impl_DirectionTo_l0 k (
        K (0 : Int) false) (fun (x0 : Int) (x1 : Bool) =>
        K x0 x1) k (0 : Int) a b
/-- laws.FnExactDirectionTo -/
def laws_FnExactDirectionTo (k : Nat) (aA : Int × Int) (aB : Int × Int) {R : Type} (K : Bool → Option R) : Option R :=
  laws_toHex aA fun (r : Int × Int) =>
  laws_toHex aB fun (r0 : Int × Int) =>
  spec_DirectionTo k r r0 fun (r1 : Int) (r2 : Bool) =>
  laws_toHex aA fun (r3 : Int × Int) =>
  laws_toHex aB fun (r4 : Int × Int) =>
  impl_DirectionTo k r3 r4 fun (r5 : Int) (r6 : Bool) =>
  bif !(decide (r5 = r1)) then
    K false
  else
    bif !(r6 == r2) then
      K false
    else
      K true
/-- spec.NeighbourOf -/
def spec_NeighbourOf (h : Int × Int) (d : Int) {R : Type} (K : (Int × Int) → Bool → Option R) : Option R :=
  spec_hGood h fun (r : Bool) =>
  bif !r then
    K ((0 : Int), (0 : Int)) false
  else
    spec_l1In d (0 : Int) (5 : Int) fun (r0 : Bool) =>
    bif !r0 then
      K ((0 : Int), (0 : Int)) false
    else
      spec_hStep h d fun (r1 : Int × Int) =>
      spec_hIf r1 fun (r2 : Int × Int) (r3 : Bool) =>
      K r2 r3
/-- impl.isDirection -/
def impl_isDirection (d : Int) {R : Type} (K : Bool → Option R) : Option R :=
  impl_inRange d (0 : Int) (5 : Int) fun (r : Bool) =>
  K r
/-- impl.NeighbourOf -/
def impl_NeighbourOf (h : Int × Int) (d : Int) {R : Type} (K : (Int × Int) → Bool → Option R) : Option R :=
  impl_IsHex h fun (r : Bool) =>
  bif !r then
    K ((0 : Int), (0 : Int)) false
  else
    impl_isDirection d fun (r0 : Bool) =>
    bif !r0 then
      K ((0 : Int), (0 : Int)) false
    else
      impl_stepBy h d (1 : Int) fun (r1 : Int × Int) =>
      impl_checkedHex r1 fun (r2 : Int × Int) (r3 : Bool) =>
      K r2 r3
/-- laws.FnExactNeighbourOf -/
def laws_FnExactNeighbourOf (aH : Int × Int) (aD : Int) {R : Type} (K : Bool → Option R) : Option R :=
  laws_toHex aH fun (r : Int × Int) =>
  spec_NeighbourOf r aD fun (r0 : Int × Int) (r1 : Bool) =>
  laws_toHex aH fun (r2 : Int × Int) =>
  impl_NeighbourOf r2 aD fun (r3 : Int × Int) (r4 : Bool) =>
  laws_eqHex r3 r0 fun (r5 : Bool) =>
  bif !r5 then
    K false
  else
    bif !(r4 == r1) then
      K false
    else
      K true
end Go.Lg
/- Plain tools for loops and numbers. -/
namespace Go.Lg
open Go Go.Ev
theorem w64 {n : Int} (h : -9223372036854775808 ≤ n ∧ n ≤ 9223372036854775807) : IntKind.wrap .i64 n = n := IntWalk.i64_in n h
theorem w64' {n : Int} (h0 : -9223372036854775808 ≤ n) (h1 : n ≤ 9223372036854775807) : IntKind.wrap .i64 n = n := w64 ⟨h0, h1⟩
theorem wsucc {i : Nat} (h : i < 4611686018427387904) : IntKind.wrap .i64 ((i : Int) + 1) = ((i + 1 : Nat) : Int) := by rw [w64 (by omega)]; omega
theorem wf64 {x : Int} (h : Wf (.int .i64) x) : -9223372036854775808 ≤ x ∧ x ≤ 9223372036854775807 := by
  have h : (Lit.int .i64 x).wf = true := h
  simp only [Lit.wf, Bool.and_eq_true, decide_eq_true_eq] at h
  have h1 : IntKind.i64.min = -9223372036854775808 := by decide
  have h2 : IntKind.i64.max = 9223372036854775807 := by decide
  omega
theorem wfSl {T : Ty} {xs : List T.den} (h : Wf (.sl T) xs) : xs.length ≤ 9223372036854775807 ∧ ∀ x ∈ xs, Wf T x := by
  obtain ⟨h1, h2⟩ := h
  refine ⟨?_, fun x hx => ?_⟩
  · have : maxLen = 9223372036854775807 := by decide
    have h1 : xs.length ≤ maxLen := h1
    omega
  · obtain ⟨i, hi⟩ := List.getElem?_of_mem hx
    exact h2 i x hi
theorem dlt {a b : Nat} : decide (((a : Nat) : Int) < ((b : Nat) : Int)) = decide (a < b) := by
  by_cases h : a < b
  · rw [decide_eq_true h, decide_eq_true (by omega)]
  · rw [decide_eq_false h, decide_eq_false (by omega)]
theorem dle {a b : Nat} : decide (((a : Nat) : Int) ≤ ((b : Nat) : Int)) = decide (a ≤ b) := by
  by_cases h : a ≤ b
  · rw [decide_eq_true h, decide_eq_true (by omega)]
  · rw [decide_eq_false h, decide_eq_false (by omega)]
theorem d0 {a : Nat} : decide ((0 : Int) ≤ ((a : Nat) : Int)) = true := decide_eq_true (Int.natCast_nonneg a)
theorem toNatC {a : Nat} : Int.toNat ((a : Nat) : Int) = a := Int.toNat_natCast a
theorem getD_lt {α : Type} {l : List α} {i : Nat} {d : α} (h : i < l.length) : List.getD l i d = l[i] := by
  rw [List.getD_eq_getElem?_getD, List.getElem?_eq_getElem h]; rfl
section
variable {R α β σ : Type}
/-- A loop that goes over a list and stops at the first that is bad. -/
theorem loop_all (L : Nat → Nat → Option R) (x : List α) (p : α → Bool) (A B : Option R)
    (hs : ∀ m i (h : i < x.length), L (m + 1) i = bif p x[i] then L m (i + 1) else B) (he : ∀ m, L (m + 1) x.length = A) : ∀ m i, i ≤ x.length → x.length - i < m → L m i = bif (x.drop i).all p then A else B := by
  intro m
  induction m with
  | zero => intro i h1 h2; omega
  | succ m ih =>
    intro i h1 h2
    rcases Nat.lt_or_ge i x.length with h | h
    · rw [hs m i h, ih (i + 1) (by omega) (by omega), List.drop_eq_getElem_cons h, List.all_cons]
      cases p x[i] <;> rfl
    · have : i = x.length := by omega
      subst this
      rw [he, List.drop_length]; rfl
theorem loop_all0 (L : Nat → Nat → Option R) (x : List α) (p : α → Bool) (A B : Option R)
    (hs : ∀ m i (h : i < x.length), L (m + 1) i = bif p x[i] then L m (i + 1) else B) (he : ∀ m, L (m + 1) x.length = A) {m : Nat} (hm : x.length < m) : L m 0 = bif x.all p then A else B := by
  have := loop_all L x p A B hs he m 0 (Nat.zero_le _) (by omega)
  rwa [List.drop_zero] at this
/-- A loop that carries a state over a list. -/
theorem loop_fold (L : Nat → Nat → σ → Option R) (x : List α) (f : σ → α → σ) (fin : σ → Option R)
    (hs : ∀ m i s (h : i < x.length), L (m + 1) i s = L m (i + 1) (f s x[i])) (he : ∀ m s, L (m + 1) x.length s = fin s) : ∀ m i s, i ≤ x.length → x.length - i < m → L m i s = fin ((x.drop i).foldl f s) := by
  intro m
  induction m with
  | zero => intro i s h1 h2; omega
  | succ m ih =>
    intro i s h1 h2
    rcases Nat.lt_or_ge i x.length with h | h
    · rw [hs m i s h, ih (i + 1) _ (by omega) (by omega), List.drop_eq_getElem_cons h, List.foldl_cons]
    · have : i = x.length := by omega
      subst this
      rw [he, List.drop_length]; rfl
theorem loop_fold0 (L : Nat → Nat → σ → Option R) (x : List α) (f : σ → α → σ) (fin : σ → Option R)
    (hs : ∀ m i s (h : i < x.length), L (m + 1) i s = L m (i + 1) (f s x[i])) (he : ∀ m s, L (m + 1) x.length s = fin s) {m : Nat} {s : σ} (hm : x.length < m) : L m 0 s = fin (x.foldl f s) := by
  have := loop_fold L x f fin hs he m 0 s (Nat.zero_le _) (by omega)
  rwa [List.drop_zero] at this
/-- A loop that fills a list. -/
theorem loop_set (L : Nat → Nat → List β → Option R) (x : List α) (f : α → β) (K : List β → Option R)
    (hs : ∀ m i out (h : i < x.length), out.length = x.length → L (m + 1) i out = L m (i + 1) (out.set i (f x[i]))) (he : ∀ m out, out.length = x.length → L (m + 1) x.length out = K out) :
    ∀ m i out, out.length = x.length → i ≤ x.length → x.length - i < m → L m i out = K (out.take i ++ (x.drop i).map f) := by
  intro m
  induction m with
  | zero => intro i out h0 h1 h2; omega
  | succ m ih =>
    intro i out h0 h1 h2
    rcases Nat.lt_or_ge i x.length with h | h
    · rw [hs m i out h h0, ih (i + 1) _ (by simp [h0]) (by omega) (by omega), List.drop_eq_getElem_cons h, List.map_cons]
      congr 1
      rw [List.take_succ_eq_append_getElem (by simp; omega)]
      rw [List.take_set_of_le (Nat.le_refl i)]
      simp
    · have : i = x.length := by omega
      subst this
      rw [he m out h0, List.drop_length]
      rw [List.take_of_length_le (by omega)]; simp
theorem loop_set0 (L : Nat → Nat → List β → Option R) (x : List α) (f : α → β) (K : List β → Option R)
    (hs : ∀ m i out (h : i < x.length), out.length = x.length → L (m + 1) i out = L m (i + 1) (out.set i (f x[i]))) (he : ∀ m out, out.length = x.length → L (m + 1) x.length out = K out) {m : Nat} {out : List β} (h0 : out.length = x.length) (hm : x.length < m) : L m 0 out = K (x.map f) := by
  have := loop_set L x f K hs he m 0 out h0 (Nat.zero_le _) (by omega)
  simpa using this
/-- f, c times from i on. -/
def iterN (f : Nat → σ → σ) : Nat → Nat → σ → σ
  | 0, _, s => s
  | c + 1, i, s => iterN f c (i + 1) (f i s)
/-- A loop that carries a state and keeps to something. -/
theorem loop_inv (L : Nat → Nat → σ → Option R) (n : Nat) (f : Nat → σ → σ) (fin : σ → Option R) (P : Nat → σ → Prop)
    (hs : ∀ m i s, i < n → P i s → L (m + 1) i s = L m (i + 1) (f i s)) (hP : ∀ i s, i < n → P i s → P (i + 1) (f i s)) (he : ∀ m s, P n s → L (m + 1) n s = fin s) : ∀ m i s, i ≤ n → P i s → n - i < m → L m i s = fin (iterN f (n - i) i s) := by
  intro m
  induction m with
  | zero => intro i s h1 h2 h3; omega
  | succ m ih =>
    intro i s h1 h2 h3
    rcases Nat.lt_or_ge i n with h | h
    · rw [hs m i s h h2, ih (i + 1) _ (by omega) (hP i s h h2) (by omega), show n - i = (n - (i + 1)) + 1 by omega]
      rfl
    · have : i = n := by omega
      subst this
      rw [he m s h2, Nat.sub_self]; rfl
theorem iterN_inv (f : Nat → σ → σ) (P : Nat → σ → Prop) (n : Nat) (hP : ∀ i s, i < n → P i s → P (i + 1) (f i s)) : ∀ c i s, i + c = n → P i s → P n (iterN f c i s)
  | 0, i, s, h, hp => by have : i = n := by omega
                         subst this; exact hp
  | c + 1, i, s, h, hp => iterN_inv f P n hP c (i + 1) (f i s) (by omega) (hP i s (by omega) hp)
/-- A loop that comes to a bad one. -/
theorem loop_bad (L : Nat → Nat → σ → Option R) (x : List α) (p : α → Bool) (f : Nat → σ → σ) (B : Option R) (P : Nat → σ → Prop)
    (hs : ∀ m i s (h : i < x.length), P i s → p x[i] = true → L (m + 1) i s = L m (i + 1) (f i s)) (hP : ∀ i s (h : i < x.length), P i s → p x[i] = true → P (i + 1) (f i s))
    (hb : ∀ m i s (h : i < x.length), P i s → p x[i] = false → L (m + 1) i s = B) : ∀ m i s, P i s → (x.drop i).all p = false → x.length - i < m → L m i s = B := by
  intro m
  induction m with
  | zero => intro i s h1 h2 h3; omega
  | succ m ih =>
    intro i s h1 h2 h3
    rcases Nat.lt_or_ge i x.length with h | h
    · rw [List.drop_eq_getElem_cons h, List.all_cons] at h2
      cases hp : p x[i] with
      | false => exact hb m i s h h1 hp
      | true =>
        rw [hp, Bool.true_and] at h2
        rw [hs m i s h h1 hp]
        exact ih (i + 1) _ (hP i s h h1 hp) h2 (by omega)
    · rw [List.drop_eq_nil_of_le h] at h2
      cases h2
end
end Go.Lg
/- The hexes: what the functions answer. -/
set_option linter.unusedSimpArgs false
namespace Go.Lg
open Go Go.Ev
def inB (n lo hi : Int) : Bool := decide (lo ≤ n) && decide (n ≤ hi)
theorem inB_iff {n lo hi : Int} : inB n lo hi = true ↔ lo ≤ n ∧ n ≤ hi := by simp [inB]
theorem inB_not {n lo hi : Int} : inB n lo hi = false ↔ ¬ (lo ≤ n ∧ n ≤ hi) := by rw [← inB_iff]; simp
def okHex (h : Int × Int) : Bool := inB h.1 (-40) 40 && inB h.2 (-40) 40
theorem okHex_iff {h : Int × Int} : okHex h = true ↔ (-40 ≤ h.1 ∧ h.1 ≤ 40) ∧ -40 ≤ h.2 ∧ h.2 ≤ 40 := by simp [okHex, inB_iff]
section
variable {R : Type}
theorem toHex_eq (a : Int × Int) (K : Int × Int → Option R) : laws_toHex a K = K a := rfl
theorem l1In_eq (n lo hi : Int) (K : Bool → Option R) : spec_l1In n lo hi K = K (inB n lo hi) := by
  unfold spec_l1In inB; cases decide (lo ≤ n) <;> rfl
theorem inRange_eq (n lo hi : Int) (K : Bool → Option R) : impl_inRange n lo hi K = K (inB n lo hi) := by
  unfold impl_inRange inB; cases decide (lo ≤ n) <;> rfl
theorem hGood_eq (h : Int × Int) (K : Bool → Option R) : spec_hGood h K = K (okHex h) := by
  unfold spec_hGood okHex; rw [l1In_eq]; cases inB h.1 (-40) 40
  · rfl
  · show spec_l1In _ _ _ _ = _; rw [l1In_eq]; rfl
theorem IsHex_eq (h : Int × Int) (K : Bool → Option R) : impl_IsHex h K = K (okHex h) := by
  unfold impl_IsHex okHex; rw [inRange_eq]; cases inB h.1 (-40) 40
  · rfl
  · show impl_inRange _ _ _ _ = _; rw [inRange_eq]; rfl
theorem sIsHex_eq (h : Int × Int) (K : Bool → Option R) : spec_IsHex h K = K (okHex h) := by unfold spec_IsHex; rw [hGood_eq]
theorem law_FnExactIsHex (a : Int × Int) (w : Wf (.st (.pair (.int .i64) (.int .i64))) a) (K : Bool → Option R) : laws_FnExactIsHex a K = K true := by
  simp only [laws_FnExactIsHex, toHex_eq, sIsHex_eq, IsHex_eq]
  cases okHex a <;> rfl
/-- A hex, if it is valid. -/
def hexIf (h : Int × Int) : Int × Int := bif okHex h then h else (0, 0)
theorem hIf_eq (h : Int × Int) (K : Int × Int → Bool → Option R) : spec_hIf h K = K (hexIf h) (okHex h) := by
  unfold spec_hIf hexIf; rw [hGood_eq]; cases okHex h <;> rfl
theorem checkedHex_eq (h : Int × Int) (K : Int × Int → Bool → Option R) : impl_checkedHex h K = K (hexIf h) (okHex h) := by
  unfold impl_checkedHex hexIf; rw [IsHex_eq]; cases okHex h <;> rfl
theorem eqHex_eq (a b : Int × Int) (K : Bool → Option R) : laws_eqHex a b K = K (decide (a.1 = b.1) && decide (a.2 = b.2)) := by
  unfold laws_eqHex; cases decide (a.1 = b.1) <;> cases decide (a.2 = b.2) <;> rfl
theorem eqHex_self (a : Int × Int) (K : Bool → Option R) : laws_eqHex a a K = K true := by rw [eqHex_eq]; simp
theorem MirrorHex_eq (h c : Int × Int) (K : Int × Int → Bool → Option R) : impl_MirrorHex h c K = spec_MirrorHex h c K := by
  simp only [impl_MirrorHex, spec_MirrorHex, IsHex_eq, hGood_eq, checkedHex_eq, hIf_eq]
theorem sMirrorHex_ret (h c : Int × Int) : ∃ v b, ∀ {R : Type} (K : Int × Int → Bool → Option R), spec_MirrorHex h c K = K v b := by
  cases h1 : okHex h
  · exact ⟨_, _, fun K => by simp only [spec_MirrorHex, hGood_eq, h1]; rfl⟩
  · cases h2 : okHex c
    · exact ⟨_, _, fun K => by simp only [spec_MirrorHex, hGood_eq, h1, h2]; rfl⟩
    · exact ⟨_, _, fun K => by simp only [spec_MirrorHex, hGood_eq, h1, h2, hIf_eq]; rfl⟩
theorem law_FnExactMirrorHex (a : Int × Int) (w : Wf (.st (.pair (.int .i64) (.int .i64))) a) (c : Int × Int) (w2 : Wf (.st (.pair (.int .i64) (.int .i64))) c) (K : Bool → Option R) : laws_FnExactMirrorHex a c K = K true := by
  obtain ⟨v, b, hv⟩ := sMirrorHex_ret a c
  simp only [laws_FnExactMirrorHex, toHex_eq, MirrorHex_eq, hv, eqHex_self]
  simp
def dist (a b : Int × Int) : Int := ((if b.1 - a.1 < 0 then a.1 - b.1 else b.1 - a.1) + (if b.2 - a.2 < 0 then a.2 - b.2 else b.2 - a.2) + (if (b.1 - a.1) + (b.2 - a.2) < 0 then -((b.1 - a.1) + (b.2 - a.2)) else (b.1 - a.1) + (b.2 - a.2))) / 2
theorem l1Abs_eq (n : Int) (h : -1000000 ≤ n ∧ n ≤ 1000000) (K : Int → Option R) : spec_l1Abs n K = K (if n < 0 then -n else n) := by
  simp only [spec_l1Abs, spec_l1Most]
  rw [w64 (by omega)]
  by_cases h1 : n < 0
  · rw [if_pos h1, decide_eq_false (by omega)]; simp
  · rw [if_neg h1]
    by_cases h2 : 0 < n
    · rw [decide_eq_true (by omega)]; rfl
    · have : n = 0 := by omega
      subst this; rfl
theorem absOf_eq (n : Int) (h : -1000000 ≤ n ∧ n ≤ 1000000) (K : Int → Option R) : impl_absOf n K = K (if n < 0 then -n else n) := by
  unfold impl_absOf
  by_cases h1 : n < 0
  · rw [if_pos h1, decide_eq_true h1, w64 (by omega)]; simp
  · rw [if_neg h1, decide_eq_false h1]; rfl
theorem half_eq {x y z : Int} (hx : 0 ≤ x ∧ x ≤ 100000) (hy : 0 ≤ y ∧ y ≤ 100000) (hz : 0 ≤ z ∧ z ≤ 100000) : IntKind.wrap .i64 (Int.tdiv (IntKind.wrap .i64 ((IntKind.wrap .i64 (x + y)) + z)) 2) = (x + y + z) / 2 := by
  rw [w64 (n := x + y) (by omega), w64 (n := x + y + z) (by omega), Int.tdiv_eq_ediv_of_nonneg (by omega), w64 (by omega)]
/-- Two points that are not far. -/
def near (a : Int × Int) : Prop := (-1000 ≤ a.1 ∧ a.1 ≤ 1000) ∧ -1000 ≤ a.2 ∧ a.2 ≤ 1000
theorem okHex_near {a : Int × Int} (h : okHex a = true) : near a := by
  obtain ⟨h1, h2⟩ := okHex_iff.1 h
  exact ⟨by omega, by omega⟩
theorem hDistance_eq {a b : Int × Int} (ha : near a) (hb : near b) (K : Int → Option R) : spec_hDistance a b K = K (dist a b) := by
  obtain ⟨⟨a1, a2⟩, a3, a4⟩ := ha
  obtain ⟨⟨b1, b2⟩, b3, b4⟩ := hb
  unfold spec_hDistance
  rw [w64 (n := b.1 - a.1) (by omega), w64 (n := b.2 - a.2) (by omega), l1Abs_eq _ (by omega), l1Abs_eq _ (by omega), w64 (n := b.1 - a.1 + (b.2 - a.2)) (by omega), l1Abs_eq _ (by omega)]
  congr 1
  unfold dist
  rw [half_eq (by split <;> omega) (by split <;> omega) (by split <;> omega)]
  split <;> split <;> split <;> omega
theorem distance_eq {a b : Int × Int} (ha : near a) (hb : near b) (K : Int → Option R) : impl_distance a b K = K (dist a b) := by
  obtain ⟨⟨a1, a2⟩, a3, a4⟩ := ha
  obtain ⟨⟨b1, b2⟩, b3, b4⟩ := hb
  unfold impl_distance
  rw [w64 (n := b.1 - a.1) (by omega), w64 (n := b.2 - a.2) (by omega), absOf_eq _ (by omega), absOf_eq _ (by omega), w64 (n := b.1 - a.1 + (b.2 - a.2)) (by omega), absOf_eq _ (by omega)]
  congr 1
  unfold dist
  rw [half_eq (by split <;> omega) (by split <;> omega) (by split <;> omega)]
  split <;> split <;> split <;> omega
theorem law_FnExactDistanceOf (a : Int × Int) (w : Wf (.st (.pair (.int .i64) (.int .i64))) a) (b : Int × Int) (w2 : Wf (.st (.pair (.int .i64) (.int .i64))) b) (K : Bool → Option R) : laws_FnExactDistanceOf a b K = K true := by
  simp only [laws_FnExactDistanceOf, toHex_eq, spec_DistanceOf, impl_DistanceOf, hGood_eq, IsHex_eq]
  cases h1 : okHex a
  · simp
  · cases h2 : okHex b
    · simp
    · simp only [Bool.not_true, cond_false, hDistance_eq (okHex_near h1) (okHex_near h2), distance_eq (okHex_near h1) (okHex_near h2)]
      simp
/-! ### turning -/
theorem law_FnExactTurnHex_k (k : Nat) (a : Int × Int) (w : Wf (.st (.pair (.int .i64) (.int .i64))) a) (c : Int × Int) (w2 : Wf (.st (.pair (.int .i64) (.int .i64))) c) (n : Int) (w3 : Wf (.int .i64) n) (K : Bool → Option R) : laws_FnExactTurnHex (k + 7) a c n K = K true := by
  simp only [laws_FnExactTurnHex, toHex_eq, spec_TurnHex, impl_TurnHex, hGood_eq, IsHex_eq, l1In_eq, inRange_eq]
  cases h1 : okHex a
  · simp [eqHex_eq]
  · cases h2 : okHex c
    · simp [eqHex_eq]
    · cases h3 : inB n 0 5
      · simp [eqHex_eq]
      · rw [inB_iff] at h3
        have h4 : n = 0 ∨ n = 1 ∨ n = 2 ∨ n = 3 ∨ n = 4 ∨ n = 5 := by omega
        rcases h4 with rfl | rfl | rfl | rfl | rfl | rfl <;>
          simp [spec_TurnHex_l0, impl_TurnHex_l0, hIf_eq, checkedHex_eq, eqHex_eq, w64]
theorem hStep_eq {d : Int} (h : 0 ≤ d ∧ d ≤ 5) (a : Int × Int) (K : Int × Int → Option R) : spec_hStep a d K = impl_stepBy a d 1 K := by
  have h4 : d = 0 ∨ d = 1 ∨ d = 2 ∨ d = 3 ∨ d = 4 ∨ d = 5 := by omega
  rcases h4 with rfl | rfl | rfl | rfl | rfl | rfl <;> simp [spec_hStep, impl_stepBy, impl_directions, w64]
theorem hStep_ret {d : Int} (h : 0 ≤ d ∧ d ≤ 5) (a : Int × Int) : ∃ v, ∀ {R : Type} (K : Int × Int → Option R), spec_hStep a d K = K v := by
  have h4 : d = 0 ∨ d = 1 ∨ d = 2 ∨ d = 3 ∨ d = 4 ∨ d = 5 := by omega
  rcases h4 with rfl | rfl | rfl | rfl | rfl | rfl <;> exact ⟨_, fun K => rfl⟩
theorem isDirection_eq (d : Int) (K : Bool → Option R) : impl_isDirection d K = K (inB d 0 5) := by unfold impl_isDirection; rw [inRange_eq]
theorem law_FnExactNeighbourOf (a : Int × Int) (w : Wf (.st (.pair (.int .i64) (.int .i64))) a) (d : Int) (w2 : Wf (.int .i64) d) (K : Bool → Option R) : laws_FnExactNeighbourOf a d K = K true := by
  simp only [laws_FnExactNeighbourOf, toHex_eq, spec_NeighbourOf, impl_NeighbourOf, hGood_eq, IsHex_eq, l1In_eq, isDirection_eq]
  cases h1 : okHex a
  · simp [eqHex_eq]
  · cases h3 : inB d 0 5
    · simp [eqHex_eq]
    · rw [inB_iff] at h3
      obtain ⟨v, hv⟩ := hStep_ret h3 a
      simp only [Bool.not_true, cond_false, ← hStep_eq h3, hv, hIf_eq, checkedHex_eq, eqHex_self]
      simp
/-- Six tries. -/
theorem impl_DirectionTo_eq (k : Nat) (a b : Int × Int) (K : Int → Bool → Option R) : impl_DirectionTo (k + 7) a b K = spec_DirectionTo (k + 7) a b K := by
  have e0 := fun (K : Int × Int → Option R) => hStep_eq (d := 0) (by omega) a K
  have e1 := fun (K : Int × Int → Option R) => hStep_eq (d := 1) (by omega) a K
  have e2 := fun (K : Int × Int → Option R) => hStep_eq (d := 2) (by omega) a K
  have e3 := fun (K : Int × Int → Option R) => hStep_eq (d := 3) (by omega) a K
  have e4 := fun (K : Int × Int → Option R) => hStep_eq (d := 4) (by omega) a K
  have e5 := fun (K : Int × Int → Option R) => hStep_eq (d := 5) (by omega) a K
  simp only [impl_DirectionTo, spec_DirectionTo, IsHex_eq, hGood_eq]
  cases okHex a
  · rfl
  · cases okHex b
    · rfl
    · simp [impl_DirectionTo_l0, spec_DirectionTo_l0, w64, e0, e1, e2, e3, e4, e5]
theorem sDirectionTo_ret (k : Nat) (a b : Int × Int) : ∃ v r, ∀ {R : Type} (K : Int → Bool → Option R), spec_DirectionTo (k + 7) a b K = K v r := by
  obtain ⟨v0, e0⟩ := hStep_ret (d := 0) (by omega) a
  obtain ⟨v1, e1⟩ := hStep_ret (d := 1) (by omega) a
  obtain ⟨v2, e2⟩ := hStep_ret (d := 2) (by omega) a
  obtain ⟨v3, e3⟩ := hStep_ret (d := 3) (by omega) a
  obtain ⟨v4, e4⟩ := hStep_ret (d := 4) (by omega) a
  obtain ⟨v5, e5⟩ := hStep_ret (d := 5) (by omega) a
  cases h1 : okHex a
  · exact ⟨_, _, fun K => by simp only [spec_DirectionTo, hGood_eq, h1]; rfl⟩
  · cases h2 : okHex b
    · exact ⟨_, _, fun K => by simp only [spec_DirectionTo, hGood_eq, h1, h2]; rfl⟩
    · have key : ∀ {R : Type} (K : Int → Bool → Option R), spec_DirectionTo (k + 7) a b K = (bif (decide (v0.1 = b.1) && decide (v0.2 = b.2)) then K 0 true else bif (decide (v1.1 = b.1) && decide (v1.2 = b.2)) then K 1 true else bif (decide (v2.1 = b.1) && decide (v2.2 = b.2)) then K 2 true else bif (decide (v3.1 = b.1) && decide (v3.2 = b.2)) then K 3 true else bif (decide (v4.1 = b.1) && decide (v4.2 = b.2)) then K 4 true else bif (decide (v5.1 = b.1) && decide (v5.2 = b.2)) then K 5 true else K 0 false) := by
        intro R K
        simp only [spec_DirectionTo, hGood_eq, h1, h2, Bool.not_true, cond_false]
        simp [spec_DirectionTo_l0, w64, e0, e1, e2, e3, e4, e5]
      generalize (decide (v0.1 = b.1) && decide (v0.2 = b.2)) = p0 at key
      generalize (decide (v1.1 = b.1) && decide (v1.2 = b.2)) = p1 at key
      generalize (decide (v2.1 = b.1) && decide (v2.2 = b.2)) = p2 at key
      generalize (decide (v3.1 = b.1) && decide (v3.2 = b.2)) = p3 at key
      generalize (decide (v4.1 = b.1) && decide (v4.2 = b.2)) = p4 at key
      generalize (decide (v5.1 = b.1) && decide (v5.2 = b.2)) = p5 at key
      cases p0 <;> first | exact ⟨0, true, fun K => key K⟩ | skip
      cases p1 <;> first | exact ⟨1, true, fun K => key K⟩ | skip
      cases p2 <;> first | exact ⟨2, true, fun K => key K⟩ | skip
      cases p3 <;> first | exact ⟨3, true, fun K => key K⟩ | skip
      cases p4 <;> first | exact ⟨4, true, fun K => key K⟩ | skip
      cases p5 <;> first | exact ⟨5, true, fun K => key K⟩ | skip
      exact ⟨0, false, fun K => key K⟩
theorem law_FnExactDirectionTo_k (k : Nat) (a : Int × Int) (w : Wf (.st (.pair (.int .i64) (.int .i64))) a) (b : Int × Int) (w2 : Wf (.st (.pair (.int .i64) (.int .i64))) b) (K : Bool → Option R) : laws_FnExactDirectionTo (k + 7) a b K = K true := by
  obtain ⟨v, r, h⟩ := sDirectionTo_ret k a b
  simp only [laws_FnExactDirectionTo, toHex_eq, impl_DirectionTo_eq, h]
  simp
theorem law_FnExactDirectionTo (a : Int × Int) (w : Wf (.st (.pair (.int .i64) (.int .i64))) a) (b : Int × Int) (w2 : Wf (.st (.pair (.int .i64) (.int .i64))) b) (K : Bool → Option R) : laws_FnExactDirectionTo 4194304 a b K = K true := law_FnExactDirectionTo_k 4194297 a w b w2 K
theorem law_FnExactTurnHex (a : Int × Int) (w : Wf (.st (.pair (.int .i64) (.int .i64))) a) (c : Int × Int) (w2 : Wf (.st (.pair (.int .i64) (.int .i64))) c) (n : Int) (w3 : Wf (.int .i64) n) (K : Bool → Option R) : laws_FnExactTurnHex 4194304 a c n K = K true := law_FnExactTurnHex_k 4194297 a w c w2 n w3 K
/-! ### lists of hexes -/
theorem toHexS_eq {k : Nat} (a : List (Int × Int)) (h : a.length < k) (hb : a.length ≤ 137438953472) (K : List (Int × Int) → Option R) : laws_toHexS k a K = K a := by
  unfold laws_toHexS
  rw [d0, decide_eq_true (p := ((a.length : Nat) : Int) ≤ 137438953472) (by omega), decide_eq_true rfl, toNatC]
  show laws_toHexS_l0 k (fun out0 => K out0) k a 0 _ = _
  have := loop_set0 (fun m i out => laws_toHexS_l0 k (fun out0 => K out0) m a (i : Int) out) a (fun x => x) K ?_ ?_ (m := k) (out := List.replicate a.length ((0 : Int), (0 : Int))) (by simp) h
  · rw [List.map_id'] at this
    exact this
  · intro m i out hi ho
    show laws_toHexS_l0 k _ (m + 1) a (i : Int) out = laws_toHexS_l0 k _ m a ((i + 1 : Nat) : Int) _
    rw [laws_toHexS_l0, dlt, d0, dlt, decide_eq_true hi, decide_eq_true (by omega : i < out.length), toNatC, getD_lt hi, wsucc (by omega)]
    rfl
  · intro m out ho
    show laws_toHexS_l0 k _ (m + 1) a (a.length : Int) out = K out
    rw [laws_toHexS_l0, dlt, decide_eq_false (by omega)]
    rfl
theorem eqHexS_self {k : Nat} (a : List (Int × Int)) (h : a.length < k) (hb : a.length ≤ 137438953472) (K : Bool → Option R) : laws_eqHexS k a a K = K true := by
  unfold laws_eqHexS
  rw [decide_eq_true rfl]
  show laws_eqHexS_l0 k (K true) (fun x => K x) k a a 0 = _
  have := loop_all0 (fun m i => laws_eqHexS_l0 k (K true) (fun x => K x) m a a (i : Int)) a (fun _ => true) (K true) (K false) ?_ ?_ (m := k) h
  · refine this.trans ?_
    rw [List.all_eq_true.2 (fun _ _ => rfl)]; rfl
  · intro m i hi
    show laws_eqHexS_l0 k _ _ (m + 1) a a (i : Int) = laws_eqHexS_l0 k _ _ m a a ((i + 1 : Nat) : Int)
    rw [laws_eqHexS_l0, dlt, d0, decide_eq_true hi, eqHex_self, wsucc (by omega)]
    rfl
  · intro m
    show laws_eqHexS_l0 k _ _ (m + 1) a a (a.length : Int) = K true
    rw [laws_eqHexS_l0, dlt, decide_eq_false (by omega)]
    rfl
theorem allHexes_eq {k : Nat} (a : List (Int × Int)) (h : a.length < k) (hb : a.length ≤ 137438953472) (K : Bool → Option R) : impl_allHexes k a K = K (a.all okHex) := by
  unfold impl_allHexes
  have := loop_all0 (fun m i => impl_allHexes_l0 k (K true) (fun x => K x) m a (a.length : Int) (i : Int)) a okHex (K true) (K false) ?_ ?_ (m := k) h
  · refine this.trans ?_
    cases a.all okHex <;> rfl
  · intro m i hi
    show impl_allHexes_l0 k _ _ (m + 1) a _ (i : Int) = bif _ then impl_allHexes_l0 k _ _ m a _ ((i + 1 : Nat) : Int) else _
    rw [impl_allHexes_l0, dlt, d0, decide_eq_true hi, toNatC, getD_lt hi, wsucc (by omega)]
    show impl_IsHex a[i] _ = _
    rw [IsHex_eq]
    cases okHex a[i] <;> rfl
  · intro m
    show impl_allHexes_l0 k _ _ (m + 1) a (a.length : Int) (a.length : Int) = K true
    rw [impl_allHexes_l0, dlt, decide_eq_false (by omega)]
    rfl
theorem szHexS_eq (a : List (Int × Int)) (left : Int) (hl : 0 ≤ left ∧ left ≤ 1048576) (ha : a.length ≤ 9223372036854775807) (K : Int → Option R) : laws_szHexS a left K = bif decide ((a.length : Int) ≤ left) then K (left - a.length) else K (-1) := by
  unfold laws_szHexS
  rw [w64 (by omega)]
  by_cases h : (a.length : Int) ≤ left
  · rw [decide_eq_true h, decide_eq_false (by omega)]; rfl
  · rw [decide_eq_false h, decide_eq_true (by omega)]; rfl
/-- The first of the nearest, from a place on. -/
def nearAt (h : Int × Int) (l : List (Int × Int)) (i : Nat) (best : Nat) : Nat := if dist (l.getD i (0, 0)) h < dist (l.getD best (0, 0)) h then i else best
section
variable {l : List (Int × Int)} {h : Int × Int} (hl : l.length ≤ 137438953472) (hn : near h)
include hl hn
theorem sNear_step (K0 : Int → Option R) (K1 : Int → Bool → Option R) (m i best : Nat) (hi : i < l.length) (hb : best < l.length) (h1 : okHex l[i] = true) (h2 : okHex (l.getD best (0, 0)) = true) :
    spec_NearestAlong_l0 4194304 K0 K1 (m + 1) l (best : Int) l (l.length : Int) (i : Int) h = spec_NearestAlong_l0 4194304 K0 K1 m l (nearAt h l i best : Nat) l (l.length : Int) ((i + 1 : Nat) : Int) h := by
  rw [spec_NearestAlong_l0, dlt, decide_eq_true hi, d0, toNatC, hGood_eq]
  simp only [Bool.true_and, cond_true]
  have g1 : okHex (l.getD i (0, 0)) = true := by rw [getD_lt hi]; exact h1
  rw [g1]
  simp only [Bool.not_true, cond_false]
  rw [hDistance_eq (okHex_near g1) hn, d0, dlt, decide_eq_true hb, toNatC]
  simp only [Bool.true_and, cond_true]
  rw [hDistance_eq (okHex_near h2) hn, wsucc (by omega)]
  unfold nearAt
  by_cases hd : dist (l.getD i (0, 0)) h < dist (l.getD best (0, 0)) h
  · rw [decide_eq_true hd, if_pos hd]; rfl
  · rw [decide_eq_false hd, if_neg hd]; rfl
theorem iNear_step (K0 : Int → Option R) (m i best : Nat) (hi : i < l.length) (hb : best < l.length) (h1 : okHex l[i] = true) (h2 : okHex (l.getD best (0, 0)) = true) :
    impl_NearestAlong_l0 4194304 K0 (m + 1) l (best : Int) (l.length : Int) (i : Int) h = impl_NearestAlong_l0 4194304 K0 m l (nearAt h l i best : Nat) (l.length : Int) ((i + 1 : Nat) : Int) h := by
  rw [impl_NearestAlong_l0, dlt, decide_eq_true hi, d0, toNatC]
  simp only [Bool.true_and, cond_true]
  have g1 : okHex (l.getD i (0, 0)) = true := by rw [getD_lt hi]; exact h1
  rw [distance_eq (okHex_near g1) hn, d0, dlt, decide_eq_true hb, toNatC]
  simp only [Bool.true_and, cond_true]
  rw [distance_eq (okHex_near h2) hn, wsucc (by omega)]
  unfold nearAt
  by_cases hd : dist (l.getD i (0, 0)) h < dist (l.getD best (0, 0)) h
  · rw [decide_eq_true hd, if_pos hd]; rfl
  · rw [decide_eq_false hd, if_neg hd]; rfl
theorem nearAt_lt {i best : Nat} (hi : i < l.length) (hb : best < l.length) : nearAt h l i best < l.length := by
  unfold nearAt; split <;> assumption
theorem sNear_all (hp : 0 < l.length) (hk : l.length < 4194304) (K0 : Int → Option R) (K1 : Int → Bool → Option R) (hall : l.all okHex = true) :
    spec_NearestAlong_l0 4194304 K0 K1 4194304 l 0 l (l.length : Int) 0 h = K0 ((iterN (nearAt h l) l.length 0 0 : Nat) : Int) := by
  have hok : ∀ i (hi : i < l.length), okHex l[i] = true := fun i hi => List.all_eq_true.1 hall _ (List.getElem_mem hi)
  have hok' : ∀ i, i < l.length → okHex (l.getD i (0, 0)) = true := fun i hi => by rw [getD_lt hi]; exact hok i hi
  have := loop_inv (fun m i (best : Nat) => spec_NearestAlong_l0 4194304 K0 K1 m l (best : Int) l (l.length : Int) (i : Int) h) l.length (nearAt h l) (fun b => K0 (b : Int)) (fun _ b => b < l.length)
    (fun m i s hi hs => sNear_step hl hn K0 K1 m i s hi hs (hok i hi) (hok' s hs)) (fun i s hi hs => nearAt_lt hl hn hi hs)
    (fun m s hs => by show spec_NearestAlong_l0 4194304 K0 K1 (m + 1) l _ l _ _ h = _; rw [spec_NearestAlong_l0, dlt, decide_eq_false (by omega)]; rfl) 4194304 0 0 (Nat.zero_le _) hp (by omega)
  exact this
theorem iNear_all (hp : 0 < l.length) (hk : l.length < 4194304) (K0 : Int → Option R) (hall : l.all okHex = true) :
    impl_NearestAlong_l0 4194304 K0 4194304 l 0 (l.length : Int) 0 h = K0 ((iterN (nearAt h l) l.length 0 0 : Nat) : Int) := by
  have hok : ∀ i (hi : i < l.length), okHex l[i] = true := fun i hi => List.all_eq_true.1 hall _ (List.getElem_mem hi)
  have hok' : ∀ i, i < l.length → okHex (l.getD i (0, 0)) = true := fun i hi => by rw [getD_lt hi]; exact hok i hi
  have := loop_inv (fun m i (best : Nat) => impl_NearestAlong_l0 4194304 K0 m l (best : Int) (l.length : Int) (i : Int) h) l.length (nearAt h l) (fun b => K0 (b : Int)) (fun _ b => b < l.length)
    (fun m i s hi hs => iNear_step hl hn K0 m i s hi hs (hok i hi) (hok' s hs)) (fun i s hi hs => nearAt_lt hl hn hi hs)
    (fun m s hs => by show impl_NearestAlong_l0 4194304 K0 (m + 1) l _ _ _ h = _; rw [impl_NearestAlong_l0, dlt, decide_eq_false (by omega)]; rfl) 4194304 0 0 (Nat.zero_le _) hp (by omega)
  exact this
theorem sNear_bad (hp : 0 < l.length) (hk : l.length < 4194304) (K0 : Int → Option R) (K1 : Int → Bool → Option R) (hall : l.all okHex = false) :
    spec_NearestAlong_l0 4194304 K0 K1 4194304 l 0 l (l.length : Int) 0 h = K1 0 false := by
  have h2 : ∀ i s (hi : i < l.length), okHex l[i] = true → (s < l.length ∧ (okHex (l.getD s (0, 0)) = true ∨ (i = 0 ∧ s = 0))) → okHex (l.getD s (0, 0)) = true := by
    intro i s hi h1 h3
    rcases h3.2 with h3 | ⟨rfl, rfl⟩
    · exact h3
    · rw [getD_lt hi]; exact h1
  have := loop_bad (fun m i (best : Nat) => spec_NearestAlong_l0 4194304 K0 K1 m l (best : Int) l (l.length : Int) (i : Int) h) l okHex (nearAt h l) (K1 0 false) (fun i s => s < l.length ∧ (okHex (l.getD s (0, 0)) = true ∨ (i = 0 ∧ s = 0)))
    (fun m i s hi hs h1 => sNear_step hl hn K0 K1 m i s hi hs.1 h1 (h2 i s hi h1 hs)) (fun i s hi hs h1 => ⟨nearAt_lt hl hn hi hs.1, .inl (by
      unfold nearAt
      split
      · rw [getD_lt hi]; exact h1
      · exact h2 i s hi h1 hs)⟩)
    (fun m i s hi hs h1 => by
      show spec_NearestAlong_l0 4194304 K0 K1 (m + 1) l _ l _ _ h = _
      rw [spec_NearestAlong_l0, dlt, decide_eq_true hi, d0, toNatC, hGood_eq, getD_lt hi, h1]; rfl) 4194304 0 0 ⟨hp, .inr ⟨rfl, rfl⟩⟩ (by rw [List.drop_zero]; exact hall) (by omega)
  exact this
end
theorem law_FnExactNearestAlong (l : List (Int × Int)) (w : Wf (.sl (.st (.pair (.int .i64) (.int .i64)))) l) (h : Int × Int) (w2 : Wf (.st (.pair (.int .i64) (.int .i64))) h) (K : Bool → Option R) : laws_FnExactNearestAlong 4194304 l h K = K true := by
  have hl := (wfSl w).1
  unfold laws_FnExactNearestAlong
  rw [szHexS_eq l _ (by omega) hl]
  by_cases h0 : (l.length : Int) ≤ 1048576
  · rw [decide_eq_true h0]
    simp only [cond_true]
    rw [decide_eq_false (by omega : ¬ (1048576 : Int) - l.length < 0)]
    simp only [cond_false]
    have hk : l.length < 4194304 := by omega
    simp only [toHexS_eq l hk (by omega), toHex_eq, eqHexS_self l hk (by omega)]
    unfold spec_NearestAlong impl_NearestAlong
    simp only [l1In_eq, hGood_eq, IsHex_eq, allHexes_eq l hk (by omega)]
    by_cases h1 : (l.length : Int) < 1
    · rw [inB_not.2 (by omega), decide_eq_true h1]; simp
    · rw [decide_eq_false h1]
      by_cases h2 : (60 : Int) < l.length
      · rw [inB_not.2 (by omega), decide_eq_true h2]; simp
      · rw [inB_iff.2 (by omega), decide_eq_false h2]
        simp only [Bool.not_true, cond_false]
        cases h3 : okHex h
        · cases l.all okHex <;> simp
        · have hn := okHex_near h3
          cases h4 : l.all okHex
          · simp only [Bool.not_true, cond_false, Bool.not_false, cond_true]
            rw [sNear_bad (by omega) hn (by omega) hk _ _ h4]
            simp
          · simp only [Bool.not_true, cond_false]
            rw [sNear_all (by omega) hn (by omega) hk _ _ h4]
            rw [iNear_all (by omega) hn (by omega) hk _ h4]
            simp
  · rw [decide_eq_false h0]; rfl
end
end Go.Lg
