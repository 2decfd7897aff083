/- The program's tables, as plain values; what library functions answer. -/
import Derived.Test.YtncllndlbeghjaaEv1
import Derived.Lib.ItoaNum
import Derived.Lib.Join
set_option linter.unusedVariables false
set_option linter.unusedSimpArgs false
set_option linter.unusedSectionVars false
namespace Go.Lg
open Go Go.Ev
def impl_directions : List (Int × Int) := [((1 : Int), (0 : Int)), ((1 : Int), (-1 : Int)), ((0 : Int), (-1 : Int)), ((-1 : Int), (0 : Int)), ((-1 : Int), (1 : Int)), ((0 : Int), (1 : Int))]
def impl_limitNames : List ByteArray := [(⟨#[115, 116, 97, 99, 107]⟩ : ByteArray), (⟨#[114, 105, 118, 101, 114]⟩ : ByteArray), (⟨#[114, 111, 97, 100]⟩ : ByteArray), (⟨#[115, 117, 112, 112, 108, 121]⟩ : ByteArray), (⟨#[116, 117, 114, 110, 115]⟩ : ByteArray)]
def itoaB (n : Int) : ByteArray := ⟨(Lib.itoa n).toArray⟩
def joinB (xs : List ByteArray) (sep : ByteArray) : ByteArray := ⟨(Lib.join (xs.map fun x => x.data.toList) sep.data.toList).toArray⟩
def strconv_Itoa (n : Int) {R : Type} (K : ByteArray → Option R) : Option R :=
  bif decide (-9223372036854775808 ≤ n) && decide (n ≤ 9223372036854775807) then K (itoaB n) else none
def strings_Join (xs : List ByteArray) (sep : ByteArray) {R : Type} (K : ByteArray → Option R) : Option R :=
  bif decide (List.length xs ≤ 140737488355328) && decide ((Lib.join (xs.map fun x => x.data.toList) sep.data.toList).length ≤ 140737488355328) then K (joinB xs sep) else none
end Go.Lg
set_option linter.unusedVariables false
namespace Go.Lg
open Go Go.Ev
/-- laws.toHex -/
def laws_toHex (a : Int × Int) {R : Type} (K : (Int × Int) → Option R) : Option R :=
  K (a.1, a.2)
/-- spec.l1In -/
def spec_l1In (n_0 : Int) (lo : Int) (hi : Int) {R : Type} (K : Bool → Option R) : Option R :=
  bif decide (lo ≤ n_0) then
    K (decide (n_0 ≤ hi))
  else
    K false
/-- spec.hGood -/
def spec_hGood (h : Int × Int) {R : Type} (K : Bool → Option R) : Option R :=
  spec_l1In h.1 (-40 : Int) (40 : Int) fun (r : Bool) =>
  bif r then
    spec_l1In h.2 (-40 : Int) (40 : Int) fun (r0 : Bool) =>
    K r0
  else
    K false
/-- spec.IsHex -/
def spec_IsHex (h : Int × Int) {R : Type} (K : Bool → Option R) : Option R :=
  spec_hGood h fun (r : Bool) =>
  K r
/-- impl.inRange -/
def impl_inRange (n_0 : Int) (low : Int) (high : Int) {R : Type} (K : Bool → Option R) : Option R :=
  bif decide (low ≤ n_0) then
    K (decide (n_0 ≤ high))
  else
    K false
/-- impl.IsHex -/
def impl_IsHex (h : Int × Int) {R : Type} (K : Bool → Option R) : Option R :=
  impl_inRange h.1 (-40 : Int) (40 : Int) fun (r : Bool) =>
  bif r then
    impl_inRange h.2 (-40 : Int) (40 : Int) fun (r0 : Bool) =>
    K r0
  else
    K false
/-- laws.FnExactIsHex -/
def laws_FnExactIsHex (aH : Int × Int) {R : Type} (K : Bool → Option R) : Option R :=
  laws_toHex aH fun (r : Int × Int) =>
  spec_IsHex r fun (r0 : Bool) =>
  laws_toHex aH fun (r1 : Int × Int) =>
  impl_IsHex r1 fun (r2 : Bool) =>
  bif !(r2 == r0) then
    K false
  else
    K true
/-- spec.hIf -/
def spec_hIf (h : Int × Int) {R : Type} (K : (Int × Int) → Bool → Option R) : Option R :=
  spec_hGood h fun (r : Bool) =>
  bif !r then
    K ((0 : Int), (0 : Int)) false
  else
    K h true
/-- spec.MirrorHex -/
def spec_MirrorHex (h : Int × Int) (centre : Int × Int) {R : Type} (K : (Int × Int) → Bool → Option R) : Option R :=
  spec_hGood h fun (r : Bool) =>
  bif !r then
    K ((0 : Int), (0 : Int)) false
  else
    spec_hGood centre fun (r0 : Bool) =>
    bif !r0 then
      K ((0 : Int), (0 : Int)) false
    else
      spec_hIf (IntKind.wrap .i64 ((IntKind.wrap .i64 (centre.1 + h.2)) - centre.2), IntKind.wrap .i64 ((IntKind.wrap .i64 (centre.2 + h.1)) - centre.1)) fun (r1 : Int × Int) (r2 : Bool) =>
      K r1 r2
/-- impl.checkedHex -/
def impl_checkedHex (h : Int × Int) {R : Type} (K : (Int × Int) → Bool → Option R) : Option R :=
  impl_IsHex h fun (r : Bool) =>
  bif !r then
    K ((0 : Int), (0 : Int)) false
  else
    K h true
/-- impl.MirrorHex -/
def impl_MirrorHex (h : Int × Int) (centre : Int × Int) {R : Type} (K : (Int × Int) → Bool → Option R) : Option R :=
  impl_IsHex h fun (r : Bool) =>
  bif !r then
    K ((0 : Int), (0 : Int)) false
  else
    impl_IsHex centre fun (r0 : Bool) =>
    bif !r0 then
      K ((0 : Int), (0 : Int)) false
    else
      impl_checkedHex (IntKind.wrap .i64 ((IntKind.wrap .i64 (centre.1 + h.2)) - centre.2), IntKind.wrap .i64 ((IntKind.wrap .i64 (centre.2 + h.1)) - centre.1)) fun (r1 : Int × Int) (r2 : Bool) =>
      K r1 r2
/-- laws.eqHex -/
def laws_eqHex (a : Int × Int) (b : Int × Int) {R : Type} (K : Bool → Option R) : Option R :=
  bif !(decide (a.1 = b.1)) then
    K false
  else
    bif !(decide (a.2 = b.2)) then
      K false
    else
      K true
/-- laws.FnExactMirrorHex -/
def laws_FnExactMirrorHex (aH : Int × Int) (aCentre : Int × Int) {R : Type} (K : Bool → Option R) : Option R :=
  laws_toHex aH fun (r : Int × Int) =>
  laws_toHex aCentre fun (r0 : Int × Int) =>
  spec_MirrorHex r r0 fun (r1 : Int × Int) (r2 : Bool) =>
  laws_toHex aH fun (r3 : Int × Int) =>
  laws_toHex aCentre fun (r4 : Int × Int) =>
  impl_MirrorHex r3 r4 fun (r5 : Int × Int) (r6 : Bool) =>
  laws_eqHex r5 r1 fun (r7 : Bool) =>
  bif !r7 then
    K false
  else
    bif !(r6 == r2) then
      K false
    else
      K true
/-- spec.l1Most -/
def spec_l1Most (a : Int) (b : Int) {R : Type} (K : Int → Option R) : Option R :=
  bif decide (b < a) then
    K a
  else
    K b
/-- spec.l1Abs -/
def spec_l1Abs (n_0 : Int) {R : Type} (K : Int → Option R) : Option R :=
  spec_l1Most n_0 (IntKind.wrap .i64 (0 - n_0)) fun (r : Int) =>
  K r
/-- spec.hDistance -/
def spec_hDistance (a : Int × Int) (b : Int × Int) {R : Type} (K : Int → Option R) : Option R :=
  spec_l1Abs (IntKind.wrap .i64 (b.1 - a.1)) fun (r : Int) =>
  spec_l1Abs (IntKind.wrap .i64 (b.2 - a.2)) fun (r0 : Int) =>
  spec_l1Abs (IntKind.wrap .i64 ((IntKind.wrap .i64 (b.1 - a.1)) + (IntKind.wrap .i64 (b.2 - a.2)))) fun (r1 : Int) =>
  K (IntKind.wrap .i64 (Int.tdiv (IntKind.wrap .i64 ((IntKind.wrap .i64 (r + r0)) + r1)) (2 : Int)))
/-- spec.DistanceOf -/
def spec_DistanceOf (a : Int × Int) (b : Int × Int) {R : Type} (K : Int → Bool → Option R) : Option R :=
  spec_hGood a fun (r : Bool) =>
  bif !r then
    K (0 : Int) false
  else
    spec_hGood b fun (r0 : Bool) =>
    bif !r0 then
      K (0 : Int) false
    else
      spec_hDistance a b fun (r1 : Int) =>
      K r1 true
/-- impl.absOf -/
def impl_absOf (n_0 : Int) {R : Type} (K : Int → Option R) : Option R :=
  bif decide (n_0 < (0 : Int)) then
    K (IntKind.wrap .i64 (0 - n_0))
  else
    K n_0
/-- impl.distance -/
def impl_distance (a : Int × Int) (b : Int × Int) {R : Type} (K : Int → Option R) : Option R :=
  impl_absOf (IntKind.wrap .i64 (b.1 - a.1)) fun (r : Int) =>
  impl_absOf (IntKind.wrap .i64 (b.2 - a.2)) fun (r0 : Int) =>
  impl_absOf (IntKind.wrap .i64 ((IntKind.wrap .i64 (b.1 - a.1)) + (IntKind.wrap .i64 (b.2 - a.2)))) fun (r1 : Int) =>
  K (IntKind.wrap .i64 (Int.tdiv (IntKind.wrap .i64 ((IntKind.wrap .i64 (r + r0)) + r1)) (2 : Int)))
/-- impl.DistanceOf -/
def impl_DistanceOf (a : Int × Int) (b : Int × Int) {R : Type} (K : Int → Bool → Option R) : Option R :=
  impl_IsHex a fun (r : Bool) =>
  bif !r then
    K (0 : Int) false
  else
    impl_IsHex b fun (r0 : Bool) =>
    bif !r0 then
      K (0 : Int) false
    else
      impl_distance a b fun (r1 : Int) =>
      K r1 true
/-- laws.FnExactDistanceOf -/
def laws_FnExactDistanceOf (aA : Int × Int) (aB : Int × Int) {R : Type} (K : Bool → Option R) : Option R :=
  laws_toHex aA fun (r : Int × Int) =>
  laws_toHex aB fun (r0 : Int × Int) =>
  spec_DistanceOf r r0 fun (r1 : Int) (r2 : Bool) =>
  laws_toHex aA fun (r3 : Int × Int) =>
  laws_toHex aB fun (r4 : Int × Int) =>
  impl_DistanceOf r3 r4 fun (r5 : Int) (r6 : Bool) =>
  bif !(decide (r5 = r1)) then
    K false
  else
    bif !(r6 == r2) then
      K false
    else
      K true
/-- spec.TurnHex -/
def spec_TurnHex_l0 (k : Nat) {R : Type} (K0 : Int → Int → (Int × Int) → (Int × Int) → Option R) : Nat → Int → Int → Int → (Int × Int) → (Int × Int) → Option R
  | 0, _, _, _, _, _ => none
  | m + 1, k_0, q, r2, centre0, x =>
    bif decide ((0 : Int) < k_0) then
      spec_TurnHex_l0 k K0 m (IntKind.wrap .i64 (k_0 - (1 : Int))) (IntKind.wrap .i64 (0 - r2)) (IntKind.wrap .i64 (q + r2)) centre0 x
    else
      K0 q r2 centre0 x
def spec_TurnHex (k : Nat) (h : Int × Int) (centre : Int × Int) (k_ : Int) {R : Type} (K : (Int × Int) → Bool → Option R) : Option R :=
  spec_hGood h fun (r : Bool) =>
  bif !r then
    K ((0 : Int), (0 : Int)) false
  else
    spec_hGood centre fun (r0 : Bool) =>
    bif !r0 then
      K ((0 : Int), (0 : Int)) false
    else
      spec_l1In k_ (0 : Int) (5 : Int) fun (r1 : Bool) =>
      bif !r1 then
        K ((0 : Int), (0 : Int)) false
      else
        spec_TurnHex_l0 k (fun (q0 : Int) (r3 : Int) (centre1 : Int × Int) (x0 : Int × Int) =>
          spec_hIf (IntKind.wrap .i64 (centre1.1 + q0), IntKind.wrap .i64 (centre1.2 + r3)) fun (r4 : Int × Int) (r5 : Bool) =>
          K r4 r5) k k_ (IntKind.wrap .i64 (h.1 - centre.1)) (IntKind.wrap .i64 (h.2 - centre.2)) centre ((0 : Int), (0 : Int))
/-- impl.TurnHex -/
def impl_TurnHex_l0 (k : Nat) {R : Type} (K0 : Int → Int → (Int × Int) → (Int × Int) → Option R) : Nat → Int → Int → Int → Int → (Int × Int) → (Int × Int) → Option R
  | 0, _, _, _, _, _, _ => none
  | m + 1, q, r2, x, x0, centre0, x1 =>
    bif decide (x0 < x) then
      impl_TurnHex_l0 k K0 m (IntKind.wrap .i64 (0 - r2)) (IntKind.wrap .i64 (q + r2)) x (IntKind.wrap .i64 (x0 + (1 : Int))) centre0 x1
    else
      K0 q r2 centre0 x1
def impl_TurnHex (k : Nat) (h : Int × Int) (centre : Int × Int) (k_ : Int) {R : Type} (K : (Int × Int) → Bool → Option R) : Option R :=
  impl_IsHex h fun (r : Bool) =>
  bif !r then
    K ((0 : Int), (0 : Int)) false
  else
    impl_IsHex centre fun (r0 : Bool) =>
    bif !r0 then
      K ((0 : Int), (0 : Int)) false
    else
      impl_inRange k_ (0 : Int) (5 : Int) fun (r1 : Bool) =>
      bif !r1 then
        K ((0 : Int), (0 : Int)) false
      else
        impl_TurnHex_l0 k (fun (q0 : Int) (r3 : Int) (centre1 : Int × Int) (x2 : Int × Int) =>
          impl_checkedHex (IntKind.wrap .i64 (centre1.1 + q0), IntKind.wrap .i64 (centre1.2 + r3)) fun (r4 : Int × Int) (r5 : Bool) =>
          K r4 r5) k (IntKind.wrap .i64 (h.1 - centre.1)) (IntKind.wrap .i64 (h.2 - centre.2)) k_ (0 : Int) centre ((0 : Int), (0 : Int))
/-- laws.FnExactTurnHex -/
def laws_FnExactTurnHex (k : Nat) (aH : Int × Int) (aCentre : Int × Int) (aK : Int) {R : Type} (K : Bool → Option R) : Option R :=
  laws_toHex aH fun (r : Int × Int) =>
  laws_toHex aCentre fun (r0 : Int × Int) =>
  spec_TurnHex k r r0 aK fun (r1 : Int × Int) (r2 : Bool) =>
  laws_toHex aH fun (r3 : Int × Int) =>
  laws_toHex aCentre fun (r4 : Int × Int) =>
  impl_TurnHex k r3 r4 aK fun (r5 : Int × Int) (r6 : Bool) =>
  laws_eqHex r5 r1 fun (r7 : Bool) =>
  bif !r7 then
    K false
  else
    bif !(r6 == r2) then
      K false
    else
      K true
/-- laws.szHexS -/
def laws_szHexS (a : List (Int × Int)) (left : Int) {R : Type} (K : Int → Option R) : Option R :=
  bif decide (IntKind.wrap .i64 (left - ((List.length a : Nat) : Int)) < (0 : Int)) then
    K (-1 : Int)
  else
    K (IntKind.wrap .i64 (left - ((List.length a : Nat) : Int)))
/-- laws.toHexS -/
def laws_toHexS_l0 (k : Nat) {R : Type} (K0 : (List (Int × Int)) → Option R) : Nat → (List (Int × Int)) → Int → (List (Int × Int)) → Option R
  | 0, _, _, _ => none
  | m + 1, a0, i, out =>
    bif decide (i < ((List.length a0 : Nat) : Int)) then
      bif decide ((0 : Int) ≤ i) && decide (i < ((List.length a0 : Nat) : Int)) then
        laws_toHex (List.getD a0 (Int.toNat i) ((0 : Int), (0 : Int))) fun (r : Int × Int) =>
        bif decide ((0 : Int) ≤ i) && decide (i < ((List.length out : Nat) : Int)) then
          laws_toHexS_l0 k K0 m a0 (IntKind.wrap .i64 (i + (1 : Int))) (List.set out (Int.toNat i) r)
        else
          none
      else
        none
    else
      K0 out
def laws_toHexS (k : Nat) (a : List (Int × Int)) {R : Type} (K : (List (Int × Int)) → Option R) : Option R :=
  bif decide ((0 : Int) ≤ ((List.length a : Nat) : Int)) && decide (((List.length a : Nat) : Int) ≤ (137438953472 : Int)) && decide (((List.length a : Nat) : Int) = ((List.length a : Nat) : Int)) then
    laws_toHexS_l0 k (fun (out0 : List (Int × Int)) =>
      K out0) k a (0 : Int) (List.replicate (Int.toNat ((List.length a : Nat) : Int)) ((0 : Int), (0 : Int)))
  else
    none
/-- spec.NearestAlong -/
def spec_NearestAlong_l0 (k : Nat) {R : Type} (K0 : Int → Option R) (K1 : Int → Bool → Option R) : Nat → (List (Int × Int)) → Int → (List (Int × Int)) → Int → Int → (Int × Int) → Option R
  | 0, _, _, _, _, _, _ => none
  | m + 1, list0, best, x, x0, x1, h0 =>
    bif decide (x1 < x0) then
      bif decide ((0 : Int) ≤ x1) && decide (x1 < ((List.length x : Nat) : Int)) then
        spec_hGood (List.getD x (Int.toNat x1) ((0 : Int), (0 : Int))) fun (r1 : Bool) =>
        bif !r1 then
          K1 (0 : Int) false
        else
          spec_hDistance (List.getD x (Int.toNat x1) ((0 : Int), (0 : Int))) h0 fun (r2 : Int) =>
          bif decide ((0 : Int) ≤ best) && decide (best < ((List.length list0 : Nat) : Int)) then
            spec_hDistance (List.getD list0 (Int.toNat best) ((0 : Int), (0 : Int))) h0 fun (r3 : Int) =>
            bif decide (r2 < r3) then
              spec_NearestAlong_l0 k K0 K1 m list0 x1 x x0 (IntKind.wrap .i64 (x1 + (1 : Int))) h0
            else
              spec_NearestAlong_l0 k K0 K1 m list0 best x x0 (IntKind.wrap .i64 (x1 + (1 : Int))) h0
          else
            none
      else
        none
    else
      K0 best
def spec_NearestAlong (k : Nat) (list : List (Int × Int)) (h : Int × Int) {R : Type} (K : Int → Bool → Option R) : Option R :=
  spec_l1In ((List.length list : Nat) : Int) (1 : Int) (60 : Int) fun (r : Bool) =>
  bif !r then
    K (0 : Int) false
  else
    spec_hGood h fun (r0 : Bool) =>
    bif !r0 then
      K (0 : Int) false
    else
      spec_NearestAlong_l0 k (fun (best0 : Int) =>
        K best0 true) (fun (x2 : Int) (x3 : Bool) =>
        K x2 x3) k list (0 : Int) list ((List.length list : Nat) : Int) (0 : Int) h
/-- impl.allHexes -/
def impl_allHexes_l0 (k : Nat) {R : Type} (K0 : Option R) (K1 : Bool → Option R) : Nat → (List (Int × Int)) → Int → Int → Option R
  | 0, _, _, _ => none
  | m + 1, x, x0, x1 =>
    bif decide (x1 < x0) then
      bif decide ((0 : Int) ≤ x1) && decide (x1 < ((List.length x : Nat) : Int)) then
        impl_IsHex (List.getD x (Int.toNat x1) ((0 : Int), (0 : Int))) fun (r : Bool) =>
        bif !r then
          K1 false
        else
          impl_allHexes_l0 k K0 K1 m x x0 (IntKind.wrap .i64 (x1 + (1 : Int)))
      else
        none
    else
      K0
def impl_allHexes (k : Nat) (list : List (Int × Int)) {R : Type} (K : Bool → Option R) : Option R :=
  impl_allHexes_l0 k (
    K true) (fun (x2 : Bool) =>
    K x2) k list ((List.length list : Nat) : Int) (0 : Int)
/-- impl.NearestAlong -/
def impl_NearestAlong_l0 (k : Nat) {R : Type} (K0 : Int → Option R) : Nat → (List (Int × Int)) → Int → Int → Int → (Int × Int) → Option R
  | 0, _, _, _, _, _ => none
  | m + 1, list0, best, x, x0, h0 =>
    bif decide (x0 < x) then
      bif decide ((0 : Int) ≤ x0) && decide (x0 < ((List.length list0 : Nat) : Int)) then
        impl_distance (List.getD list0 (Int.toNat x0) ((0 : Int), (0 : Int))) h0 fun (r1 : Int) =>
        bif decide ((0 : Int) ≤ best) && decide (best < ((List.length list0 : Nat) : Int)) then
          impl_distance (List.getD list0 (Int.toNat best) ((0 : Int), (0 : Int))) h0 fun (r2 : Int) =>
          bif decide (r1 < r2) then
            impl_NearestAlong_l0 k K0 m list0 x0 x (IntKind.wrap .i64 (x0 + (1 : Int))) h0
          else
            impl_NearestAlong_l0 k K0 m list0 best x (IntKind.wrap .i64 (x0 + (1 : Int))) h0
        else
          none
      else
        none
    else
      K0 best
def impl_NearestAlong (k : Nat) (list : List (Int × Int)) (h : Int × Int) {R : Type} (K : Int → Bool → Option R) : Option R :=
  bif decide (((List.length list : Nat) : Int) < (1 : Int)) then
    K (0 : Int) false
  else
    bif decide ((60 : Int) < ((List.length list : Nat) : Int)) then
      K (0 : Int) false
    else
      impl_allHexes k list fun (r : Bool) =>
      bif !r then
        K (0 : Int) false
      else
        impl_IsHex h fun (r0 : Bool) =>
        bif !r0 then
          K (0 : Int) false
        else
          impl_NearestAlong_l0 k (fun (best0 : Int) =>
            K best0 true) k list (0 : Int) ((List.length list : Nat) : Int) (0 : Int) h
/-- laws.eqHexS -/
def laws_eqHexS_l0 (k : Nat) {R : Type} (K0 : Option R) (K1 : Bool → Option R) : Nat → (List (Int × Int)) → (List (Int × Int)) → Int → Option R
  | 0, _, _, _ => none
  | m + 1, a0, b0, i =>
    bif decide (i < ((List.length a0 : Nat) : Int)) then
      bif decide ((0 : Int) ≤ i) && decide (i < ((List.length a0 : Nat) : Int)) then
        bif decide ((0 : Int) ≤ i) && decide (i < ((List.length b0 : Nat) : Int)) then
          laws_eqHex (List.getD a0 (Int.toNat i) ((0 : Int), (0 : Int))) (List.getD b0 (Int.toNat i) ((0 : Int), (0 : Int))) fun (r : Bool) =>
          bif !r then
            K1 false
          else
            laws_eqHexS_l0 k K0 K1 m a0 b0 (IntKind.wrap .i64 (i + (1 : Int)))
        else
          none
      else
        none
    else
      K0
def laws_eqHexS (k : Nat) (a : List (Int × Int)) (b : List (Int × Int)) {R : Type} (K : Bool → Option R) : Option R :=
  bif !(decide (((List.length a : Nat) : Int) = ((List.length b : Nat) : Int))) then
    K false
  else
    laws_eqHexS_l0 k (
      K true) (fun (x : Bool) =>
      K x) k a b (0 : Int)
/-- laws.FnExactNearestAlong -/
def laws_FnExactNearestAlong (k : Nat) (aList : List (Int × Int)) (aH : Int × Int) {R : Type} (K : Bool → Option R) : Option R :=
  laws_szHexS aList (1048576 : Int) fun (r : Int) =>
  bif decide (r < (0 : Int)) then
    K true
  else
    laws_toHexS k aList fun (r0 : List (Int × Int)) =>
    laws_toHex aH fun (r1 : Int × Int) =>
    spec_NearestAlong k r0 r1 fun (r2 : Int) (r3 : Bool) =>
    laws_toHexS k aList fun (r4 : List (Int × Int)) =>
    laws_toHex aH fun (r5 : Int × Int) =>
    impl_NearestAlong k r4 r5 fun (r6 : Int) (r7 : Bool) =>
    bif !(decide (r6 = r2)) then
      K false
    else
      bif !(r7 == r3) then
        K false
      else
        laws_toHexS k aList fun (r8 : List (Int × Int)) =>
        laws_eqHexS k r4 r8 fun (r9 : Bool) =>
        bif !r9 then
          K false
        else
          K true
/-- spec.hStep -/
def spec_hStep (h : Int × Int) (d : Int) {R : Type} (K : (Int × Int) → Option R) : Option R :=
  bif decide ((0 : Int) ≤ d) && decide (d < ((List.length [(1 : Int), (1 : Int), (0 : Int), (-1 : Int), (-1 : Int), (0 : Int)] : Nat) : Int)) then
    bif decide ((0 : Int) ≤ d) && decide (d < ((List.length [(0 : Int), (-1 : Int), (-1 : Int), (0 : Int), (1 : Int), (1 : Int)] : Nat) : Int)) then
      K (IntKind.wrap .i64 (h.1 + (List.getD [(1 : Int), (1 : Int), (0 : Int), (-1 : Int), (-1 : Int), (0 : Int)] (Int.toNat d) (0 : Int))), IntKind.wrap .i64 (h.2 + (List.getD [(0 : Int), (-1 : Int), (-1 : Int), (0 : Int), (1 : Int), (1 : Int)] (Int.toNat d) (0 : Int))))
    else
      none
  else
    none
/-- spec.DirectionTo -/
def spec_DirectionTo_l0 (k : Nat) {R : Type} (K0 : Option R) (K1 : Int → Bool → Option R) : Nat → Int → (Int × Int) → (Int × Int) → Option R
  | 0, _, _, _ => none
  | m + 1, d, a0, b0 =>
    bif decide (d < (6 : Int)) then
      spec_hStep a0 d fun (r1 : Int × Int) =>
      bif (decide (r1.1 = b0.1)) && (decide (r1.2 = b0.2)) then
        K1 d true
      else
        spec_DirectionTo_l0 k K0 K1 m (IntKind.wrap .i64 (d + (1 : Int))) a0 b0
    else
      K0
def spec_DirectionTo (k : Nat) (a : Int × Int) (b : Int × Int) {R : Type} (K : Int → Bool → Option R) : Option R :=
  spec_hGood a fun (r : Bool) =>
  bif !r then
    K (0 : Int) false
  else
    spec_hGood b fun (r0 : Bool) =>
    bif !r0 then
      K (0 : Int) false
    else
      spec_DirectionTo_l0 k (
        K (0 : Int) false) (fun (x : Int) (x0 : Bool) =>
        K x x0) k (0 : Int) a b
/-- impl.stepBy -/
def impl_stepBy (h : Int × Int) (d : Int) (n_0 : Int) {R : Type} (K : (Int × Int) → Option R) : Option R :=
  bif decide ((0 : Int) ≤ d) && decide (d < (6 : Int)) then
    bif decide ((0 : Int) ≤ d) && decide (d < (6 : Int)) then
      K (IntKind.wrap .i64 (h.1 + (IntKind.wrap .i64 (n_0 * (List.getD impl_directions (Int.toNat d) ((0 : Int), (0 : Int))).1))), IntKind.wrap .i64 (h.2 + (IntKind.wrap .i64 (n_0 * (List.getD impl_directions (Int.toNat d) ((0 : Int), (0 : Int))).2))))
    else
      none
  else
    none
/-- impl.DirectionTo -/
def impl_DirectionTo_l0 (k : Nat) {R : Type} (K0 : Option R) (K1 : Int → Bool → Option R) : Nat → Int → (Int × Int) → (Int × Int) → Option R
  | 0, _, _, _ => none
  | m + 1, x, a0, b0 =>
    bif decide (x < (6 : Int)) then
      impl_stepBy a0 x (1 : Int) fun (r1 : Int × Int) =>
      bif (decide (r1.1 = b0.1)) && (decide (r1.2 = b0.2)) then
        K1 x true
      else
        impl_DirectionTo_l0 k K0 K1 m (IntKind.wrap .i64 (x + (1 : Int))) a0 b0
    else
      K0
def impl_DirectionTo (k : Nat) (a : Int × Int) (b : Int × Int) {R : Type} (K : Int → Bool → Option R) : Option R :=
  impl_IsHex a fun (r : Bool) =>
  bif !r then
    K (0 : Int) false
  else
    impl_IsHex b fun (r0 : Bool) =>
    bif !r0 then
      K (0 : Int) false
    else
      impl_DirectionTo_l0 k (
        K (0 : Int) false) (fun (x0 : Int) (x1 : Bool) =>
        K x0 x1) k (0 : Int) a b
/-- laws.FnExactDirectionTo -/
def laws_FnExactDirectionTo (k : Nat) (aA : Int × Int) (aB : Int × Int) {R : Type} (K : Bool → Option R) : Option R :=
  laws_toHex aA fun (r : Int × Int) =>
  laws_toHex aB fun (r0 : Int × Int) =>
  spec_DirectionTo k r r0 fun (r1 : Int) (r2 : Bool) =>
  laws_toHex aA fun (r3 : Int × Int) =>
  laws_toHex aB fun (r4 : Int × Int) =>
  impl_DirectionTo k r3 r4 fun (r5 : Int) (r6 : Bool) =>
  bif !(decide (r5 = r1)) then
    K false
  else
    bif !(r6 == r2) then
      K false
    else
      K true
/-- spec.NeighbourOf -/
def spec_NeighbourOf (h : Int × Int) (d : Int) {R : Type} (K : (Int × Int) → Bool → Option R) : Option R :=
  spec_hGood h fun (r : Bool) =>
  bif !r then
    K ((0 : Int), (0 : Int)) false
  else
    spec_l1In d (0 : Int) (5 : Int) fun (r0 : Bool) =>
    bif !r0 then
      K ((0 : Int), (0 : Int)) false
    else
      spec_hStep h d fun (r1 : Int × Int) =>
      spec_hIf r1 fun (r2 : Int × Int) (r3 : Bool) =>
      K r2 r3
/-- impl.isDirection -/
def impl_isDirection (d : Int) {R : Type} (K : Bool → Option R) : Option R :=
  impl_inRange d (0 : Int) (5 : Int) fun (r : Bool) =>
  K r
/-- impl.NeighbourOf -/
def impl_NeighbourOf (h : Int × Int) (d : Int) {R : Type} (K : (Int × Int) → Bool → Option R) : Option R :=
  impl_IsHex h fun (r : Bool) =>
  bif !r then
    K ((0 : Int), (0 : Int)) false
  else
    impl_isDirection d fun (r0 : Bool) =>
    bif !r0 then
      K ((0 : Int), (0 : Int)) false
    else
      impl_stepBy h d (1 : Int) fun (r1 : Int × Int) =>
      impl_checkedHex r1 fun (r2 : Int × Int) (r3 : Bool) =>
      K r2 r3
/-- laws.FnExactNeighbourOf -/
def laws_FnExactNeighbourOf (aH : Int × Int) (aD : Int) {R : Type} (K : Bool → Option R) : Option R :=
  laws_toHex aH fun (r : Int × Int) =>
  spec_NeighbourOf r aD fun (r0 : Int × Int) (r1 : Bool) =>
  laws_toHex aH fun (r2 : Int × Int) =>
  impl_NeighbourOf r2 aD fun (r3 : Int × Int) (r4 : Bool) =>
  laws_eqHex r3 r0 fun (r5 : Bool) =>
  bif !r5 then
    K false
  else
    bif !(r4 == r1) then
      K false
    else
      K true
end Go.Lg
set_option linter.unusedVariables false
namespace Go.Lg
open Go Go.Ev
/-- laws.szIntS -/
def laws_szIntS (a : List Int) (left : Int) {R : Type} (K : Int → Option R) : Option R :=
  bif decide (IntKind.wrap .i64 (left - ((List.length a : Nat) : Int)) < (0 : Int)) then
    K (-1 : Int)
  else
    K (IntKind.wrap .i64 (left - ((List.length a : Nat) : Int)))
/-- laws.szMap -/
def laws_szMap (a : Int × Int × (List Int) × (List Int) × List Int) (left : Int) {R : Type} (K : Int → Option R) : Option R :=
  laws_szIntS a.2.2.1 left fun (r : Int) =>
  bif decide (r < (0 : Int)) then
    K (-1 : Int)
  else
    laws_szIntS a.2.2.2.1 r fun (r0 : Int) =>
    bif decide (r0 < (0 : Int)) then
      K (-1 : Int)
    else
      laws_szIntS a.2.2.2.2 r0 fun (r1 : Int) =>
      bif decide (r1 < (0 : Int)) then
        K (-1 : Int)
      else
        K r1
/-- laws.toIntS -/
def laws_toIntS_l0 (k : Nat) {R : Type} (K0 : (List Int) → Option R) : Nat → (List Int) → Int → (List Int) → Option R
  | 0, _, _, _ => none
  | m + 1, a0, i, out =>
    bif decide (i < ((List.length a0 : Nat) : Int)) then
      bif decide ((0 : Int) ≤ i) && decide (i < ((List.length a0 : Nat) : Int)) then
        bif decide ((0 : Int) ≤ i) && decide (i < ((List.length out : Nat) : Int)) then
          laws_toIntS_l0 k K0 m a0 (IntKind.wrap .i64 (i + (1 : Int))) (List.set out (Int.toNat i) (List.getD a0 (Int.toNat i) (0 : Int)))
        else
          none
      else
        none
    else
      K0 out
def laws_toIntS (k : Nat) (a : List Int) {R : Type} (K : (List Int) → Option R) : Option R :=
  bif decide ((0 : Int) ≤ ((List.length a : Nat) : Int)) && decide (((List.length a : Nat) : Int) ≤ (137438953472 : Int)) && decide (((List.length a : Nat) : Int) = ((List.length a : Nat) : Int)) then
    laws_toIntS_l0 k (fun (out0 : List Int) =>
      K out0) k a (0 : Int) (List.replicate (Int.toNat ((List.length a : Nat) : Int)) (0 : Int))
  else
    none
/-- laws.toMap -/
def laws_toMap (k : Nat) (a : Int × Int × (List Int) × (List Int) × List Int) {R : Type} (K : (Int × Int × (List Int) × (List Int) × List Int) → Option R) : Option R :=
  laws_toIntS k a.2.2.1 fun (r : List Int) =>
  laws_toIntS k a.2.2.2.1 fun (r0 : List Int) =>
  laws_toIntS k a.2.2.2.2 fun (r1 : List Int) =>
  K (a.1, (a.2.1, (r, (r0, r1))))
/-- spec.mSize -/
def spec_mSize (m_ : Int × Int × (List Int) × (List Int) × List Int) {R : Type} (K : Int → Option R) : Option R :=
  K (IntKind.wrap .i64 (m_.1 * m_.2.1))
/-- spec.l1All -/
def spec_l1All_l0 (k : Nat) {R : Type} (K0 : Option R) (K1 : Bool → Option R) : Nat → Int → Int → (List Int) → Int → Int → Option R
  | 0, _, _, _, _, _ => none
  | m + 1, lo0, hi0, x, x0, x1 =>
    bif decide (x1 < x0) then
      bif decide ((0 : Int) ≤ x1) && decide (x1 < ((List.length x : Nat) : Int)) then
        spec_l1In (List.getD x (Int.toNat x1) (0 : Int)) lo0 hi0 fun (r : Bool) =>
        bif !r then
          K1 false
        else
          spec_l1All_l0 k K0 K1 m lo0 hi0 x x0 (IntKind.wrap .i64 (x1 + (1 : Int)))
      else
        none
    else
      K0
def spec_l1All (k : Nat) (l : List Int) (lo : Int) (hi : Int) {R : Type} (K : Bool → Option R) : Option R :=
  spec_l1All_l0 k (
    K true) (fun (x2 : Bool) =>
    K x2) k lo hi l ((List.length l : Nat) : Int) (0 : Int)
/-- spec.mHex -/
def spec_mHex (m_ : Int × Int × (List Int) × (List Int) × List Int) (i : Int) {R : Type} (K : (Int × Int) → Option R) : Option R :=
  bif !(decide (m_.1 = (0 : Int))) then
    bif !(decide (m_.1 = (0 : Int))) then
      K (Int.tmod i m_.1, IntKind.wrap .i64 (Int.tdiv i m_.1))
    else
      none
  else
    none
/-- spec.mIndex -/
def spec_mIndex (m_ : Int × Int × (List Int) × (List Int) × List Int) (h : Int × Int) {R : Type} (K : Int → Option R) : Option R :=
  spec_l1In h.1 (0 : Int) (IntKind.wrap .i64 (m_.1 - (1 : Int))) fun (r : Bool) =>
  bif !r then
    K (-1 : Int)
  else
    spec_l1In h.2 (0 : Int) (IntKind.wrap .i64 (m_.2.1 - (1 : Int))) fun (r0 : Bool) =>
    bif !r0 then
      K (-1 : Int)
    else
      K (IntKind.wrap .i64 ((IntKind.wrap .i64 (h.2 * m_.1)) + h.1))
/-- spec.mNext -/
def spec_mNext (m_ : Int × Int × (List Int) × (List Int) × List Int) (i : Int) (d : Int) {R : Type} (K : Int → Option R) : Option R :=
  spec_mHex m_ i fun (r : Int × Int) =>
  spec_hStep r d fun (r0 : Int × Int) =>
  spec_mIndex m_ r0 fun (r1 : Int) =>
  K r1
/-- spec.l1Rising -/
def spec_l1Rising_l0 (k : Nat) {R : Type} (K0 : Option R) (K1 : Bool → Option R) : Nat → (List Int) → Int → Int → (List Int) → Int → Int → Option R
  | 0, _, _, _, _, _, _ => none
  | m + 1, l0, lo0, hi0, x, x0, x1 =>
    bif decide (x1 < x0) then
      bif decide ((0 : Int) ≤ x1) && decide (x1 < ((List.length x : Nat) : Int)) then
        spec_l1In (List.getD x (Int.toNat x1) (0 : Int)) lo0 hi0 fun (r : Bool) =>
        bif !r then
          K1 false
        else
          bif decide ((0 : Int) < x1) then
            bif decide ((0 : Int) ≤ IntKind.wrap .i64 (x1 - (1 : Int))) && decide (IntKind.wrap .i64 (x1 - (1 : Int)) < ((List.length l0 : Nat) : Int)) then
              bif decide (List.getD x (Int.toNat x1) (0 : Int) ≤ List.getD l0 (Int.toNat (IntKind.wrap .i64 (x1 - (1 : Int)))) (0 : Int)) then
                K1 false
              else
                spec_l1Rising_l0 k K0 K1 m l0 lo0 hi0 x x0 (IntKind.wrap .i64 (x1 + (1 : Int)))
            else
              none
          else
            spec_l1Rising_l0 k K0 K1 m l0 lo0 hi0 x x0 (IntKind.wrap .i64 (x1 + (1 : Int)))
      else
        none
    else
      K0
def spec_l1Rising (k : Nat) (l : List Int) (lo : Int) (hi : Int) {R : Type} (K : Bool → Option R) : Option R :=
  spec_l1Rising_l0 k (
    K true) (fun (x2 : Bool) =>
    K x2) k l lo hi l ((List.length l : Nat) : Int) (0 : Int)
/-- spec.mEdges -/
def spec_mEdges_l0 (k : Nat) {R : Type} (K0 : (List Int) → (Int × Int × (List Int) × (List Int) × List Int) → Option R) (K1 : Bool → Option R) : Nat → (List Int) → (List Int) → Int → Int → (Int × Int × (List Int) × (List Int) × List Int) → Option R
  | 0, _, _, _, _, _ => none
  | m + 1, l0, x, x0, x1, m_0 =>
    bif decide (x1 < x0) then
      bif decide ((0 : Int) ≤ x1) && decide (x1 < ((List.length x : Nat) : Int)) then
        spec_mSize m_0 fun (r : Int) =>
        spec_l1In (List.getD x (Int.toNat x1) (0 : Int)) (0 : Int) (IntKind.wrap .i64 ((IntKind.wrap .i64 ((3 : Int) * r)) - (1 : Int))) fun (r0 : Bool) =>
        bif !r0 then
          K1 false
        else
          spec_mNext m_0 (IntKind.wrap .i64 (Int.tdiv (List.getD x (Int.toNat x1) (0 : Int)) (3 : Int))) (Int.tmod (List.getD x (Int.toNat x1) (0 : Int)) (3 : Int)) fun (r1 : Int) =>
          bif decide (r1 < (0 : Int)) then
            K1 false
          else
            spec_mEdges_l0 k K0 K1 m l0 x x0 (IntKind.wrap .i64 (x1 + (1 : Int))) m_0
      else
        none
    else
      K0 l0 m_0
def spec_mEdges (k : Nat) (m_ : Int × Int × (List Int) × (List Int) × List Int) (l : List Int) {R : Type} (K : Bool → Option R) : Option R :=
  spec_mEdges_l0 k (fun (l1 : List Int) (m_1 : Int × Int × (List Int) × (List Int) × List Int) =>
    spec_mSize m_1 fun (r2 : Int) =>
    spec_l1Rising k l1 (0 : Int) (IntKind.wrap .i64 ((IntKind.wrap .i64 ((3 : Int) * r2)) - (1 : Int))) fun (r3 : Bool) =>
    K r3) (fun (x2 : Bool) =>
    K x2) k l l ((List.length l : Nat) : Int) (0 : Int) m_
/-- spec.mGood -/
def spec_mGood (k : Nat) (m_ : Int × Int × (List Int) × (List Int) × List Int) {R : Type} (K : Bool → Option R) : Option R :=
  spec_l1In m_.1 (1 : Int) (10 : Int) fun (r : Bool) =>
  bif r then
    spec_l1In m_.2.1 (1 : Int) (10 : Int) fun (r0 : Bool) =>
    bif r0 then
      spec_mSize m_ fun (r1 : Int) =>
      bif decide (((List.length m_.2.2.1 : Nat) : Int) = r1) then
        spec_l1All k m_.2.2.1 (0 : Int) (5 : Int) fun (r2 : Bool) =>
        bif r2 then
          spec_mEdges k m_ m_.2.2.2.1 fun (r3 : Bool) =>
          bif r3 then
            spec_mEdges k m_ m_.2.2.2.2 fun (r4 : Bool) =>
            K r4
          else
            K false
        else
          K false
      else
        K false
    else
      K false
  else
    K false
/-- spec.IsMap -/
def spec_IsMap (k : Nat) (m_ : Int × Int × (List Int) × (List Int) × List Int) {R : Type} (K : Bool → Option R) : Option R :=
  spec_mGood k m_ fun (r : Bool) =>
  K r
/-- impl.isIndex -/
def impl_isIndex (i : Int) (many : Int) {R : Type} (K : Bool → Option R) : Option R :=
  impl_inRange i (0 : Int) (IntKind.wrap .i64 (many - (1 : Int))) fun (r : Bool) =>
  K r
/-- impl.increasing -/
def impl_increasing_l0 (k : Nat) {R : Type} (K0 : Option R) (K1 : Bool → Option R) : Nat → (List Int) → Int → Option R
  | 0, _, _ => none
  | m + 1, list0, i =>
    bif decide (i < ((List.length list0 : Nat) : Int)) then
      bif decide ((0 : Int) ≤ IntKind.wrap .i64 (i - (1 : Int))) && decide (IntKind.wrap .i64 (i - (1 : Int)) < ((List.length list0 : Nat) : Int)) then
        bif decide ((0 : Int) ≤ i) && decide (i < ((List.length list0 : Nat) : Int)) then
          bif decide (List.getD list0 (Int.toNat i) (0 : Int) ≤ List.getD list0 (Int.toNat (IntKind.wrap .i64 (i - (1 : Int)))) (0 : Int)) then
            K1 false
          else
            impl_increasing_l0 k K0 K1 m list0 (IntKind.wrap .i64 (i + (1 : Int)))
        else
          none
      else
        none
    else
      K0
def impl_increasing (k : Nat) (list : List Int) {R : Type} (K : Bool → Option R) : Option R :=
  impl_increasing_l0 k (
    K true) (fun (x : Bool) =>
    K x) k list (1 : Int)
/-- impl.hexOf -/
def impl_hexOf (m_ : Int × Int × (List Int) × (List Int) × List Int) (i : Int) {R : Type} (K : (Int × Int) → Option R) : Option R :=
  bif !(decide (m_.1 = (0 : Int))) then
    bif !(decide (m_.1 = (0 : Int))) then
      K (Int.tmod i m_.1, IntKind.wrap .i64 (Int.tdiv i m_.1))
    else
      none
  else
    none
/-- impl.indexOf -/
def impl_indexOf (m_ : Int × Int × (List Int) × (List Int) × List Int) (h : Int × Int) {R : Type} (K : Int → Option R) : Option R :=
  impl_isIndex h.1 m_.1 fun (r : Bool) =>
  bif !r then
    K (-1 : Int)
  else
    impl_isIndex h.2 m_.2.1 fun (r0 : Bool) =>
    bif !r0 then
      K (-1 : Int)
    else
      K (IntKind.wrap .i64 ((IntKind.wrap .i64 (h.2 * m_.1)) + h.1))
/-- impl.nextTo -/
def impl_nextTo (m_ : Int × Int × (List Int) × (List Int) × List Int) (i : Int) (d : Int) {R : Type} (K : Int → Option R) : Option R :=
  impl_hexOf m_ i fun (r : Int × Int) =>
  impl_stepBy r d (1 : Int) fun (r0 : Int × Int) =>
  impl_indexOf m_ r0 fun (r1 : Int) =>
  K r1
/-- impl.isEdge -/
def impl_isEdge (m_ : Int × Int × (List Int) × (List Int) × List Int) (edge : Int) {R : Type} (K : Bool → Option R) : Option R :=
  impl_inRange edge (0 : Int) (IntKind.wrap .i64 ((IntKind.wrap .i64 ((IntKind.wrap .i64 ((3 : Int) * m_.1)) * m_.2.1)) - (1 : Int))) fun (r : Bool) =>
  bif r then
    impl_nextTo m_ (IntKind.wrap .i64 (Int.tdiv edge (3 : Int))) (Int.tmod edge (3 : Int)) fun (r0 : Int) =>
    K (decide ((0 : Int) ≤ r0))
  else
    K false
/-- impl.IsMap -/
def impl_IsMap_l0 (k : Nat) {R : Type} (K0 : (Int × Int × (List Int) × (List Int) × List Int) → Option R) (K1 : Bool → Option R) : Nat → (List Int) → Int → Int → (Int × Int × (List Int) × (List Int) × List Int) → Option R
  | 0, _, _, _, _ => none
  | m + 1, x0, x1, x2, x3 =>
    bif decide (x2 < x1) then
      bif decide ((0 : Int) ≤ x2) && decide (x2 < ((List.length x0 : Nat) : Int)) then
        impl_isIndex (List.getD x0 (Int.toNat x2) (0 : Int)) (6 : Int) fun (r1 : Bool) =>
        bif !r1 then
          K1 false
        else
          impl_IsMap_l0 k K0 K1 m x0 x1 (IntKind.wrap .i64 (x2 + (1 : Int))) x3
      else
        none
    else
      K0 x3
def impl_IsMap_l1 (k : Nat) {R : Type} (K0 : Int → Int → (Int × Int × (List Int) × (List Int) × List Int) → (List (List Int)) → Option R) (K1 : Bool → Option R) : Nat → Int → Int → (List Int) → Int → Int → (Int × Int × (List Int) × (List Int) × List Int) → (List (List Int)) → Option R
  | 0, _, _, _, _, _, _, _ => none
  | m + 1, x9, x10, x11, x12, x13, x14, x15 =>
    bif decide (x13 < x12) then
      bif decide ((0 : Int) ≤ x13) && decide (x13 < ((List.length x11 : Nat) : Int)) then
        impl_isEdge x14 (List.getD x11 (Int.toNat x13) (0 : Int)) fun (r3 : Bool) =>
        bif !r3 then
          K1 false
        else
          impl_IsMap_l1 k K0 K1 m x9 x10 x11 x12 (IntKind.wrap .i64 (x13 + (1 : Int))) x14 x15
      else
        none
    else
      K0 x9 x10 x14 x15
def impl_IsMap_l2 (k : Nat) {R : Type} (K0 : Option R) (K1 : Bool → Option R) : Nat → Int → Int → (Int × Int × (List Int) × (List Int) × List Int) → (List (List Int)) → Option R
  | 0, _, _, _, _ => none
  | m + 1, x5, x6, x7, x8 =>
    bif decide (x6 < x5) then
      bif decide ((0 : Int) ≤ x6) && decide (x6 < ((List.length x8 : Nat) : Int)) then
        impl_increasing k (List.getD x8 (Int.toNat x6) []) fun (r2 : Bool) =>
        bif !r2 then
          K1 false
        else
          impl_IsMap_l1 k (fun (x16 : Int) (x17 : Int) (x18 : Int × Int × (List Int) × (List Int) × List Int) (x19 : List (List Int)) =>
            impl_IsMap_l2 k K0 K1 m x16 (IntKind.wrap .i64 (x17 + (1 : Int))) x18 x19) (fun (x20 : Bool) =>
            K1 x20) k x5 x6 (List.getD x8 (Int.toNat x6) []) ((List.length (List.getD x8 (Int.toNat x6) []) : Nat) : Int) (0 : Int) x7 x8
      else
        none
    else
      K0
def impl_IsMap (k : Nat) (x : Int × Int × (List Int) × (List Int) × List Int) {R : Type} (K : Bool → Option R) : Option R :=
  impl_inRange x.1 (1 : Int) (10 : Int) fun (r : Bool) =>
  bif !r then
    K false
  else
    impl_inRange x.2.1 (1 : Int) (10 : Int) fun (r0 : Bool) =>
    bif !r0 then
      K false
    else
      bif !(decide (((List.length x.2.2.1 : Nat) : Int) = IntKind.wrap .i64 (x.1 * x.2.1))) then
        K false
      else
        impl_IsMap_l0 k (fun (x4 : Int × Int × (List Int) × (List Int) × List Int) =>
          impl_IsMap_l2 k (
            K true) (fun (x21 : Bool) =>
            K x21) k (2 : Int) (0 : Int) x4 [x4.2.2.2.1, x4.2.2.2.2]) (fun (x22 : Bool) =>
          K x22) k x.2.2.1 ((List.length x.2.2.1 : Nat) : Int) (0 : Int) x
/-- laws.eqIntS -/
def laws_eqIntS_l0 (k : Nat) {R : Type} (K0 : Option R) (K1 : Bool → Option R) : Nat → (List Int) → (List Int) → Int → Option R
  | 0, _, _, _ => none
  | m + 1, a0, b0, i =>
    bif decide (i < ((List.length a0 : Nat) : Int)) then
      bif decide ((0 : Int) ≤ i) && decide (i < ((List.length a0 : Nat) : Int)) then
        bif decide ((0 : Int) ≤ i) && decide (i < ((List.length b0 : Nat) : Int)) then
          bif !(decide (List.getD a0 (Int.toNat i) (0 : Int) = List.getD b0 (Int.toNat i) (0 : Int))) then
            K1 false
          else
            laws_eqIntS_l0 k K0 K1 m a0 b0 (IntKind.wrap .i64 (i + (1 : Int)))
        else
          none
      else
        none
    else
      K0
def laws_eqIntS (k : Nat) (a : List Int) (b : List Int) {R : Type} (K : Bool → Option R) : Option R :=
  bif !(decide (((List.length a : Nat) : Int) = ((List.length b : Nat) : Int))) then
    K false
  else
    laws_eqIntS_l0 k (
      K true) (fun (x : Bool) =>
      K x) k a b (0 : Int)
/-- laws.eqMap -/
def laws_eqMap (k : Nat) (a : Int × Int × (List Int) × (List Int) × List Int) (b : Int × Int × (List Int) × (List Int) × List Int) {R : Type} (K : Bool → Option R) : Option R :=
  bif !(decide (a.1 = b.1)) then
    K false
  else
    bif !(decide (a.2.1 = b.2.1)) then
      K false
    else
      laws_eqIntS k a.2.2.1 b.2.2.1 fun (r : Bool) =>
      bif !r then
        K false
      else
        laws_eqIntS k a.2.2.2.1 b.2.2.2.1 fun (r0 : Bool) =>
        bif !r0 then
          K false
        else
          laws_eqIntS k a.2.2.2.2 b.2.2.2.2 fun (r1 : Bool) =>
          bif !r1 then
            K false
          else
            K true
/-- laws.FnExactIsMap -/
def laws_FnExactIsMap (k : Nat) (aM : Int × Int × (List Int) × (List Int) × List Int) {R : Type} (K : Bool → Option R) : Option R :=
  laws_szMap aM (1048576 : Int) fun (r : Int) =>
  bif decide (r < (0 : Int)) then
    K true
  else
    laws_toMap k aM fun (r0 : Int × Int × (List Int) × (List Int) × List Int) =>
    spec_IsMap k r0 fun (r1 : Bool) =>
    laws_toMap k aM fun (r2 : Int × Int × (List Int) × (List Int) × List Int) =>
    impl_IsMap k r2 fun (r3 : Bool) =>
    bif !(r3 == r1) then
      K false
    else
      laws_toMap k aM fun (r4 : Int × Int × (List Int) × (List Int) × List Int) =>
      laws_eqMap k r2 r4 fun (r5 : Bool) =>
      bif !r5 then
        K false
      else
        K true
/-- spec.EndsOf -/
def spec_EndsOf (k : Nat) (m_ : Int × Int × (List Int) × (List Int) × List Int) (edge : Int) {R : Type} (K : Int → Int → Bool → Option R) : Option R :=
  spec_mGood k m_ fun (r : Bool) =>
  bif !r then
    K (0 : Int) (0 : Int) false
  else
    spec_mEdges k m_ [edge] fun (r0 : Bool) =>
    bif !r0 then
      K (0 : Int) (0 : Int) false
    else
      spec_mNext m_ (IntKind.wrap .i64 (Int.tdiv edge (3 : Int))) (Int.tmod edge (3 : Int)) fun (r1 : Int) =>
      K (IntKind.wrap .i64 (Int.tdiv edge (3 : Int))) r1 true
/-- impl.EndsOf -/
def impl_EndsOf (k : Nat) (m_ : Int × Int × (List Int) × (List Int) × List Int) (edge : Int) {R : Type} (K : Int → Int → Bool → Option R) : Option R :=
  impl_IsMap k m_ fun (r : Bool) =>
  bif !r then
    K (0 : Int) (0 : Int) false
  else
    impl_isEdge m_ edge fun (r0 : Bool) =>
    bif !r0 then
      K (0 : Int) (0 : Int) false
    else
      impl_nextTo m_ (IntKind.wrap .i64 (Int.tdiv edge (3 : Int))) (Int.tmod edge (3 : Int)) fun (r1 : Int) =>
      K (IntKind.wrap .i64 (Int.tdiv edge (3 : Int))) r1 true
/-- laws.FnExactEndsOf -/
def laws_FnExactEndsOf (k : Nat) (aM : Int × Int × (List Int) × (List Int) × List Int) (aEdge : Int) {R : Type} (K : Bool → Option R) : Option R :=
  laws_szMap aM (1048576 : Int) fun (r : Int) =>
  bif decide (r < (0 : Int)) then
    K true
  else
    laws_toMap k aM fun (r0 : Int × Int × (List Int) × (List Int) × List Int) =>
    spec_EndsOf k r0 aEdge fun (r1 : Int) (r2 : Int) (r3 : Bool) =>
    laws_toMap k aM fun (r4 : Int × Int × (List Int) × (List Int) × List Int) =>
    impl_EndsOf k r4 aEdge fun (r5 : Int) (r6 : Int) (r7 : Bool) =>
    bif !(decide (r5 = r1)) then
      K false
    else
      bif !(decide (r6 = r2)) then
        K false
      else
        bif !(r7 == r3) then
          K false
        else
          laws_toMap k aM fun (r8 : Int × Int × (List Int) × (List Int) × List Int) =>
          laws_eqMap k r4 r8 fun (r9 : Bool) =>
          bif !r9 then
            K false
          else
            K true
/-- spec.mOn -/
def spec_mOn (k : Nat) (m_ : Int × Int × (List Int) × (List Int) × List Int) (i : Int) {R : Type} (K : Bool → Option R) : Option R :=
  spec_mGood k m_ fun (r : Bool) =>
  bif r then
    spec_mSize m_ fun (r0 : Int) =>
    spec_l1In i (0 : Int) (IntKind.wrap .i64 (r0 - (1 : Int))) fun (r1 : Bool) =>
    K r1
  else
    K false
/-- spec.mPair -/
def spec_mPair (k : Nat) (m_ : Int × Int × (List Int) × (List Int) × List Int) (i : Int) (d : Int) {R : Type} (K : Bool → Option R) : Option R :=
  spec_mOn k m_ i fun (r : Bool) =>
  bif r then
    spec_l1In d (0 : Int) (5 : Int) fun (r0 : Bool) =>
    bif r0 then
      spec_mNext m_ i d fun (r1 : Int) =>
      K (decide ((0 : Int) ≤ r1))
    else
      K false
  else
    K false
/-- spec.NextTo -/
def spec_NextTo (k : Nat) (m_ : Int × Int × (List Int) × (List Int) × List Int) (i : Int) (d : Int) {R : Type} (K : Int → Bool → Option R) : Option R :=
  spec_mPair k m_ i d fun (r : Bool) =>
  bif !r then
    K (0 : Int) false
  else
    spec_mNext m_ i d fun (r0 : Int) =>
    K r0 true
/-- impl.isPlace -/
def impl_isPlace (k : Nat) (m_ : Int × Int × (List Int) × (List Int) × List Int) (i : Int) {R : Type} (K : Bool → Option R) : Option R :=
  impl_IsMap k m_ fun (r : Bool) =>
  bif r then
    impl_isIndex i (IntKind.wrap .i64 (m_.1 * m_.2.1)) fun (r0 : Bool) =>
    K r0
  else
    K false
/-- impl.NextTo -/
def impl_NextTo (k : Nat) (m_ : Int × Int × (List Int) × (List Int) × List Int) (i : Int) (d : Int) {R : Type} (K : Int → Bool → Option R) : Option R :=
  impl_isPlace k m_ i fun (r : Bool) =>
  bif !r then
    K (0 : Int) false
  else
    impl_isDirection d fun (r0 : Bool) =>
    bif !r0 then
      K (0 : Int) false
    else
      impl_nextTo m_ i d fun (r1 : Int) =>
      bif decide (r1 < (0 : Int)) then
        K (0 : Int) false
      else
        impl_nextTo m_ i d fun (r2 : Int) =>
        K r2 true
/-- laws.FnExactNextTo -/
def laws_FnExactNextTo (k : Nat) (aM : Int × Int × (List Int) × (List Int) × List Int) (aI : Int) (aD : Int) {R : Type} (K : Bool → Option R) : Option R :=
  laws_szMap aM (1048576 : Int) fun (r : Int) =>
  bif decide (r < (0 : Int)) then
    K true
  else
    laws_toMap k aM fun (r0 : Int × Int × (List Int) × (List Int) × List Int) =>
    spec_NextTo k r0 aI aD fun (r1 : Int) (r2 : Bool) =>
    laws_toMap k aM fun (r3 : Int × Int × (List Int) × (List Int) × List Int) =>
    impl_NextTo k r3 aI aD fun (r4 : Int) (r5 : Bool) =>
    bif !(decide (r4 = r1)) then
      K false
    else
      bif !(r5 == r2) then
        K false
      else
        laws_toMap k aM fun (r6 : Int × Int × (List Int) × (List Int) × List Int) =>
        laws_eqMap k r3 r6 fun (r7 : Bool) =>
        bif !r7 then
          K false
        else
          K true
/-- spec.IndexOf -/
def spec_IndexOf (k : Nat) (m_ : Int × Int × (List Int) × (List Int) × List Int) (h : Int × Int) {R : Type} (K : Int → Bool → Option R) : Option R :=
  spec_mGood k m_ fun (r : Bool) =>
  bif !r then
    K (0 : Int) false
  else
    spec_mIndex m_ h fun (r0 : Int) =>
    bif decide (r0 < (0 : Int)) then
      K (0 : Int) false
    else
      spec_mIndex m_ h fun (r1 : Int) =>
      K r1 true
/-- impl.IndexOf -/
def impl_IndexOf (k : Nat) (m_ : Int × Int × (List Int) × (List Int) × List Int) (h : Int × Int) {R : Type} (K : Int → Bool → Option R) : Option R :=
  impl_IsMap k m_ fun (r : Bool) =>
  bif !r then
    K (0 : Int) false
  else
    impl_indexOf m_ h fun (r0 : Int) =>
    bif decide (r0 < (0 : Int)) then
      K (0 : Int) false
    else
      impl_indexOf m_ h fun (r1 : Int) =>
      K r1 true
/-- laws.FnExactIndexOf -/
def laws_FnExactIndexOf (k : Nat) (aM : Int × Int × (List Int) × (List Int) × List Int) (aH : Int × Int) {R : Type} (K : Bool → Option R) : Option R :=
  laws_szMap aM (1048576 : Int) fun (r : Int) =>
  bif decide (r < (0 : Int)) then
    K true
  else
    laws_toMap k aM fun (r0 : Int × Int × (List Int) × (List Int) × List Int) =>
    laws_toHex aH fun (r1 : Int × Int) =>
    spec_IndexOf k r0 r1 fun (r2 : Int) (r3 : Bool) =>
    laws_toMap k aM fun (r4 : Int × Int × (List Int) × (List Int) × List Int) =>
    laws_toHex aH fun (r5 : Int × Int) =>
    impl_IndexOf k r4 r5 fun (r6 : Int) (r7 : Bool) =>
    bif !(decide (r6 = r2)) then
      K false
    else
      bif !(r7 == r3) then
        K false
      else
        laws_toMap k aM fun (r8 : Int × Int × (List Int) × (List Int) × List Int) =>
        laws_eqMap k r4 r8 fun (r9 : Bool) =>
        bif !r9 then
          K false
        else
          K true
/-- spec.HexAt -/
def spec_HexAt (k : Nat) (m_ : Int × Int × (List Int) × (List Int) × List Int) (i : Int) {R : Type} (K : (Int × Int) → Bool → Option R) : Option R :=
  spec_mOn k m_ i fun (r : Bool) =>
  bif !r then
    K ((0 : Int), (0 : Int)) false
  else
    spec_mHex m_ i fun (r0 : Int × Int) =>
    K r0 true
/-- impl.HexAt -/
def impl_HexAt (k : Nat) (m_ : Int × Int × (List Int) × (List Int) × List Int) (i : Int) {R : Type} (K : (Int × Int) → Bool → Option R) : Option R :=
  impl_isPlace k m_ i fun (r : Bool) =>
  bif !r then
    K ((0 : Int), (0 : Int)) false
  else
    impl_hexOf m_ i fun (r0 : Int × Int) =>
    K r0 true
/-- laws.FnExactHexAt -/
def laws_FnExactHexAt (k : Nat) (aM : Int × Int × (List Int) × (List Int) × List Int) (aI : Int) {R : Type} (K : Bool → Option R) : Option R :=
  laws_szMap aM (1048576 : Int) fun (r : Int) =>
  bif decide (r < (0 : Int)) then
    K true
  else
    laws_toMap k aM fun (r0 : Int × Int × (List Int) × (List Int) × List Int) =>
    spec_HexAt k r0 aI fun (r1 : Int × Int) (r2 : Bool) =>
    laws_toMap k aM fun (r3 : Int × Int × (List Int) × (List Int) × List Int) =>
    impl_HexAt k r3 aI fun (r4 : Int × Int) (r5 : Bool) =>
    laws_eqHex r4 r1 fun (r6 : Bool) =>
    bif !r6 then
      K false
    else
      bif !(r5 == r2) then
        K false
      else
        laws_toMap k aM fun (r7 : Int × Int × (List Int) × (List Int) × List Int) =>
        laws_eqMap k r3 r7 fun (r8 : Bool) =>
        bif !r8 then
          K false
        else
          K true
/-- spec.mEdge -/
def spec_mEdge (m_ : Int × Int × (List Int) × (List Int) × List Int) (i : Int) (d : Int) {R : Type} (K : Int → Option R) : Option R :=
  bif decide (d < (3 : Int)) then
    K (IntKind.wrap .i64 ((IntKind.wrap .i64 ((3 : Int) * i)) + d))
  else
    spec_mNext m_ i d fun (r : Int) =>
    K (IntKind.wrap .i64 ((IntKind.wrap .i64 ((IntKind.wrap .i64 ((3 : Int) * r)) + d)) - (3 : Int)))
/-- spec.EdgeOf -/
def spec_EdgeOf (k : Nat) (m_ : Int × Int × (List Int) × (List Int) × List Int) (i : Int) (d : Int) {R : Type} (K : Int → Bool → Option R) : Option R :=
  spec_mPair k m_ i d fun (r : Bool) =>
  bif !r then
    K (0 : Int) false
  else
    spec_mEdge m_ i d fun (r0 : Int) =>
    K r0 true
/-- impl.edgeOf -/
def impl_edgeOf (m_ : Int × Int × (List Int) × (List Int) × List Int) (i : Int) (d : Int) {R : Type} (K : Int → Option R) : Option R :=
  impl_nextTo m_ i d fun (r : Int) =>
  bif decide (r < (0 : Int)) then
    K (-1 : Int)
  else
    bif decide (d < (3 : Int)) then
      K (IntKind.wrap .i64 ((IntKind.wrap .i64 ((3 : Int) * i)) + d))
    else
      K (IntKind.wrap .i64 ((IntKind.wrap .i64 ((IntKind.wrap .i64 ((3 : Int) * r)) + d)) - (3 : Int)))
/-- impl.EdgeOf -/
def impl_EdgeOf (k : Nat) (m_ : Int × Int × (List Int) × (List Int) × List Int) (i : Int) (d : Int) {R : Type} (K : Int → Bool → Option R) : Option R :=
  impl_isPlace k m_ i fun (r : Bool) =>
  bif !r then
    K (0 : Int) false
  else
    impl_isDirection d fun (r0 : Bool) =>
    bif !r0 then
      K (0 : Int) false
    else
      impl_nextTo m_ i d fun (r1 : Int) =>
      bif decide (r1 < (0 : Int)) then
        K (0 : Int) false
      else
        impl_edgeOf m_ i d fun (r2 : Int) =>
        K r2 true
/-- laws.FnExactEdgeOf -/
def laws_FnExactEdgeOf (k : Nat) (aM : Int × Int × (List Int) × (List Int) × List Int) (aI : Int) (aD : Int) {R : Type} (K : Bool → Option R) : Option R :=
  laws_szMap aM (1048576 : Int) fun (r : Int) =>
  bif decide (r < (0 : Int)) then
    K true
  else
    laws_toMap k aM fun (r0 : Int × Int × (List Int) × (List Int) × List Int) =>
    spec_EdgeOf k r0 aI aD fun (r1 : Int) (r2 : Bool) =>
    laws_toMap k aM fun (r3 : Int × Int × (List Int) × (List Int) × List Int) =>
    impl_EdgeOf k r3 aI aD fun (r4 : Int) (r5 : Bool) =>
    bif !(decide (r4 = r1)) then
      K false
    else
      bif !(r5 == r2) then
        K false
      else
        laws_toMap k aM fun (r6 : Int × Int × (List Int) × (List Int) × List Int) =>
        laws_eqMap k r3 r6 fun (r7 : Bool) =>
        bif !r7 then
          K false
        else
          K true
/-- spec.l1Has -/
def spec_l1Has_l0 (k : Nat) {R : Type} (K0 : Option R) (K1 : Bool → Option R) : Nat → Int → (List Int) → Int → Int → Option R
  | 0, _, _, _, _ => none
  | m + 1, n_1, x, x0, x1 =>
    bif decide (x1 < x0) then
      bif decide ((0 : Int) ≤ x1) && decide (x1 < ((List.length x : Nat) : Int)) then
        bif decide (List.getD x (Int.toNat x1) (0 : Int) = n_1) then
          K1 true
        else
          spec_l1Has_l0 k K0 K1 m n_1 x x0 (IntKind.wrap .i64 (x1 + (1 : Int)))
      else
        none
    else
      K0
def spec_l1Has (k : Nat) (l : List Int) (n_0 : Int) {R : Type} (K : Bool → Option R) : Option R :=
  spec_l1Has_l0 k (
    K false) (fun (x2 : Bool) =>
    K x2) k n_0 l ((List.length l : Nat) : Int) (0 : Int)
/-- spec.mRiver -/
def spec_mRiver (k : Nat) (m_ : Int × Int × (List Int) × (List Int) × List Int) (i : Int) (d : Int) {R : Type} (K : Bool → Option R) : Option R :=
  spec_mEdge m_ i d fun (r : Int) =>
  spec_l1Has k m_.2.2.2.1 r fun (r0 : Bool) =>
  K r0
/-- spec.HasRiver -/
def spec_HasRiver (k : Nat) (m_ : Int × Int × (List Int) × (List Int) × List Int) (i : Int) (d : Int) {R : Type} (K : Bool → Bool → Option R) : Option R :=
  spec_mPair k m_ i d fun (r : Bool) =>
  bif !r then
    K false false
  else
    spec_mRiver k m_ i d fun (r0 : Bool) =>
    K r0 true
/-- slices.Index[[]int,int] -/
def slices_Index_Sint_int_l0 (k : Nat) {R : Type} (K0 : Option R) (K1 : Int → Option R) : Nat → (List Int) → Int → Int → Int → Option R
  | 0, _, _, _, _ => none
  | m + 1, s0, v0, x, x0 =>
    bif decide (x0 < x) then
      bif decide ((0 : Int) ≤ x0) && decide (x0 < ((List.length s0 : Nat) : Int)) then
        bif decide (v0 = List.getD s0 (Int.toNat x0) (0 : Int)) then
          K1 x0
        else
          slices_Index_Sint_int_l0 k K0 K1 m s0 v0 x (IntKind.wrap .i64 (x0 + (1 : Int)))
      else
        none
    else
      K0
def slices_Index_Sint_int (k : Nat) (s : List Int) (v : Int) {R : Type} (K : Int → Option R) : Option R :=
  slices_Index_Sint_int_l0 k (
    K (-1 : Int)) (fun (x1 : Int) =>
    K x1) k s v ((List.length s : Nat) : Int) (0 : Int)
/-- slices.Contains[[]int,int] -/
def slices_Contains_Sint_int (k : Nat) (s : List Int) (v : Int) {R : Type} (K : Bool → Option R) : Option R :=
  slices_Index_Sint_int k s v fun (r : Int) =>
  K (decide ((0 : Int) ≤ r))
/-- impl.HasRiver -/
def impl_HasRiver (k : Nat) (m_ : Int × Int × (List Int) × (List Int) × List Int) (i : Int) (d : Int) {R : Type} (K : Bool → Bool → Option R) : Option R :=
  impl_EdgeOf k m_ i d fun (r : Int) (r0 : Bool) =>
  bif r0 then
    slices_Contains_Sint_int k m_.2.2.2.1 r fun (r1 : Bool) =>
    K r1 r0
  else
    K false r0
/-- laws.FnExactHasRiver -/
def laws_FnExactHasRiver (k : Nat) (aM : Int × Int × (List Int) × (List Int) × List Int) (aI : Int) (aD : Int) {R : Type} (K : Bool → Option R) : Option R :=
  laws_szMap aM (1048576 : Int) fun (r : Int) =>
  bif decide (r < (0 : Int)) then
    K true
  else
    laws_toMap k aM fun (r0 : Int × Int × (List Int) × (List Int) × List Int) =>
    spec_HasRiver k r0 aI aD fun (r1 : Bool) (r2 : Bool) =>
    laws_toMap k aM fun (r3 : Int × Int × (List Int) × (List Int) × List Int) =>
    impl_HasRiver k r3 aI aD fun (r4 : Bool) (r5 : Bool) =>
    bif !(r4 == r1) then
      K false
    else
      bif !(r5 == r2) then
        K false
      else
        laws_toMap k aM fun (r6 : Int × Int × (List Int) × (List Int) × List Int) =>
        laws_eqMap k r3 r6 fun (r7 : Bool) =>
        bif !r7 then
          K false
        else
          K true
/-- spec.mRoad -/
def spec_mRoad (k : Nat) (m_ : Int × Int × (List Int) × (List Int) × List Int) (i : Int) (d : Int) {R : Type} (K : Bool → Option R) : Option R :=
  spec_mEdge m_ i d fun (r : Int) =>
  spec_l1Has k m_.2.2.2.2 r fun (r0 : Bool) =>
  K r0
/-- spec.HasRoad -/
def spec_HasRoad (k : Nat) (m_ : Int × Int × (List Int) × (List Int) × List Int) (i : Int) (d : Int) {R : Type} (K : Bool → Bool → Option R) : Option R :=
  spec_mPair k m_ i d fun (r : Bool) =>
  bif !r then
    K false false
  else
    spec_mRoad k m_ i d fun (r0 : Bool) =>
    K r0 true
/-- impl.HasRoad -/
def impl_HasRoad (k : Nat) (m_ : Int × Int × (List Int) × (List Int) × List Int) (i : Int) (d : Int) {R : Type} (K : Bool → Bool → Option R) : Option R :=
  impl_EdgeOf k m_ i d fun (r : Int) (r0 : Bool) =>
  bif r0 then
    slices_Contains_Sint_int k m_.2.2.2.2 r fun (r1 : Bool) =>
    K r1 r0
  else
    K false r0
/-- laws.FnExactHasRoad -/
def laws_FnExactHasRoad (k : Nat) (aM : Int × Int × (List Int) × (List Int) × List Int) (aI : Int) (aD : Int) {R : Type} (K : Bool → Option R) : Option R :=
  laws_szMap aM (1048576 : Int) fun (r : Int) =>
  bif decide (r < (0 : Int)) then
    K true
  else
    laws_toMap k aM fun (r0 : Int × Int × (List Int) × (List Int) × List Int) =>
    spec_HasRoad k r0 aI aD fun (r1 : Bool) (r2 : Bool) =>
    laws_toMap k aM fun (r3 : Int × Int × (List Int) × (List Int) × List Int) =>
    impl_HasRoad k r3 aI aD fun (r4 : Bool) (r5 : Bool) =>
    bif !(r4 == r1) then
      K false
    else
      bif !(r5 == r2) then
        K false
      else
        laws_toMap k aM fun (r6 : Int × Int × (List Int) × (List Int) × List Int) =>
        laws_eqMap k r3 r6 fun (r7 : Bool) =>
        bif !r7 then
          K false
        else
          K true
/-- spec.l1Num -/
def spec_l1Num {R : Type} : Nat → Int → (ByteArray → Option R) → Option R
  | 0, _, _ => none
  | d + 1, n_0, K =>
    bif decide (n_0 < (10 : Int)) then
      K (bytesOfInts [IntKind.wrap .u8 (IntKind.wrap .i64 ((48 : Int) + n_0))])
    else
      spec_l1Num d (IntKind.wrap .i64 (Int.tdiv n_0 (10 : Int))) fun (r : ByteArray) =>
      bif decide (ByteArray.size r + ByteArray.size (bytesOfInts [IntKind.wrap .u8 (IntKind.wrap .i64 ((48 : Int) + (Int.tmod n_0 (10 : Int))))]) ≤ maxGrow) then
        K (r ++ (bytesOfInts [IntKind.wrap .u8 (IntKind.wrap .i64 ((48 : Int) + (Int.tmod n_0 (10 : Int))))]))
      else
        none
/-- spec.mList -/
def spec_mList_l0 (k : Nat) {R : Type} (K0 : ByteArray → Option R) : Nat → ByteArray → (List Int) → Int → Int → Option R
  | 0, _, _, _, _ => none
  | m + 1, word0, x, x0, x1 =>
    bif decide (x1 < x0) then
      bif decide ((0 : Int) ≤ x1) && decide (x1 < ((List.length x : Nat) : Int)) then
        spec_l1Num k (List.getD x (Int.toNat x1) (0 : Int)) fun (r : ByteArray) =>
        bif decide (ByteArray.size (⟨#[32]⟩ : ByteArray) + ByteArray.size r ≤ maxGrow) then
          bif decide (ByteArray.size word0 + ByteArray.size ((⟨#[32]⟩ : ByteArray) ++ r) ≤ maxGrow) then
            spec_mList_l0 k K0 m (word0 ++ ((⟨#[32]⟩ : ByteArray) ++ r)) x x0 (IntKind.wrap .i64 (x1 + (1 : Int)))
          else
            none
        else
          none
      else
        none
    else
      K0 word0
def spec_mList (k : Nat) (word : ByteArray) (l : List Int) {R : Type} (K : ByteArray → Option R) : Option R :=
  spec_mList_l0 k (fun (word1 : ByteArray) =>
    bif decide (ByteArray.size word1 + ByteArray.size (⟨#[10]⟩ : ByteArray) ≤ maxGrow) then
      K (word1 ++ (⟨#[10]⟩ : ByteArray))
    else
      none) k word l ((List.length l : Nat) : Int) (0 : Int)
/-- spec.mText -/
def spec_mText_l0 (k : Nat) {R : Type} (K0 : ByteArray → (Int × Int × (List Int) × (List Int) × List Int) → Option R) : Nat → ByteArray → (List Int) → Int → Int → (Int × Int × (List Int) × (List Int) × List Int) → Option R
  | 0, _, _, _, _, _ => none
  | m + 1, s, x, x0, x1, m_0 =>
    bif decide (x1 < x0) then
      bif decide ((0 : Int) ≤ x1) && decide (x1 < ((List.length x : Nat) : Int)) then
        spec_l1Num k (List.getD x (Int.toNat x1) (0 : Int)) fun (r1 : ByteArray) =>
        bif decide (ByteArray.size s + ByteArray.size r1 ≤ maxGrow) then
          bif !(decide (m_0.1 = (0 : Int))) then
            bif decide (Int.tmod x1 m_0.1 = IntKind.wrap .i64 (m_0.1 - (1 : Int))) then
              bif decide (ByteArray.size (s ++ r1) + ByteArray.size (⟨#[10]⟩ : ByteArray) ≤ maxGrow) then
                spec_mText_l0 k K0 m ((s ++ r1) ++ (⟨#[10]⟩ : ByteArray)) x x0 (IntKind.wrap .i64 (x1 + (1 : Int))) m_0
              else
                none
            else
              spec_mText_l0 k K0 m (s ++ r1) x x0 (IntKind.wrap .i64 (x1 + (1 : Int))) m_0
          else
            none
        else
          none
      else
        none
    else
      K0 s m_0
def spec_mText (k : Nat) (m_ : Int × Int × (List Int) × (List Int) × List Int) {R : Type} (K : ByteArray → Option R) : Option R :=
  spec_l1Num k m_.1 fun (r : ByteArray) =>
  bif decide (ByteArray.size (⟨#[109, 97, 112, 32]⟩ : ByteArray) + ByteArray.size r ≤ maxGrow) then
    bif decide (ByteArray.size ((⟨#[109, 97, 112, 32]⟩ : ByteArray) ++ r) + ByteArray.size (⟨#[32]⟩ : ByteArray) ≤ maxGrow) then
      spec_l1Num k m_.2.1 fun (r0 : ByteArray) =>
      bif decide (ByteArray.size (((⟨#[109, 97, 112, 32]⟩ : ByteArray) ++ r) ++ (⟨#[32]⟩ : ByteArray)) + ByteArray.size r0 ≤ maxGrow) then
        bif decide (ByteArray.size ((((⟨#[109, 97, 112, 32]⟩ : ByteArray) ++ r) ++ (⟨#[32]⟩ : ByteArray)) ++ r0) + ByteArray.size (⟨#[10]⟩ : ByteArray) ≤ maxGrow) then
          spec_mText_l0 k (fun (s0 : ByteArray) (m_1 : Int × Int × (List Int) × (List Int) × List Int) =>
            spec_mList k (⟨#[114, 105, 118, 101, 114, 115]⟩ : ByteArray) m_1.2.2.2.1 fun (r2 : ByteArray) =>
            bif decide (ByteArray.size s0 + ByteArray.size r2 ≤ maxGrow) then
              spec_mList k (⟨#[114, 111, 97, 100, 115]⟩ : ByteArray) m_1.2.2.2.2 fun (r3 : ByteArray) =>
              bif decide (ByteArray.size (s0 ++ r2) + ByteArray.size r3 ≤ maxGrow) then
                K ((s0 ++ r2) ++ r3)
              else
                none
            else
              none) k (((((⟨#[109, 97, 112, 32]⟩ : ByteArray) ++ r) ++ (⟨#[32]⟩ : ByteArray)) ++ r0) ++ (⟨#[10]⟩ : ByteArray)) m_.2.2.1 ((List.length m_.2.2.1 : Nat) : Int) (0 : Int) m_
        else
          none
      else
        none
    else
      none
  else
    none
/-- spec.MapText -/
def spec_MapText (k : Nat) (m_ : Int × Int × (List Int) × (List Int) × List Int) {R : Type} (K : ByteArray → Bool → Option R) : Option R :=
  spec_mGood k m_ fun (r : Bool) =>
  bif !r then
    K (⟨#[]⟩ : ByteArray) false
  else
    spec_mText k m_ fun (r0 : ByteArray) =>
    K r0 true
/-- impl.wordsText -/
def impl_wordsText_l0 (k : Nat) {R : Type} (K0 : (List ByteArray) → Option R) : Nat → (List Int) → Int → Int → (List ByteArray) → Option R
  | 0, _, _, _, _ => none
  | m + 1, x, x0, x1, parts =>
    bif decide (x1 < x0) then
      bif decide ((0 : Int) ≤ x1) && decide (x1 < ((List.length x : Nat) : Int)) then
        strconv_Itoa (List.getD x (Int.toNat x1) (0 : Int)) fun (r : ByteArray) =>
        bif decide (List.length parts + List.length [r] ≤ maxGrow) then
          impl_wordsText_l0 k K0 m x x0 (IntKind.wrap .i64 (x1 + (1 : Int))) (parts ++ [r])
        else
          none
      else
        none
    else
      K0 parts
def impl_wordsText (k : Nat) (word : ByteArray) (list : List Int) {R : Type} (K : ByteArray → Option R) : Option R :=
  impl_wordsText_l0 k (fun (parts0 : List ByteArray) =>
    strings_Join parts0 (⟨#[32]⟩ : ByteArray) fun (r0 : ByteArray) =>
    K r0) k list ((List.length list : Nat) : Int) (0 : Int) [word]
/-- impl.mapText -/
def impl_mapText_l0 (k : Nat) {R : Type} (K0 : ByteArray → (Int × Int × (List Int) × (List Int) × List Int) → Option R) : Nat → ByteArray → (List Int) → Int → Int → (Int × Int × (List Int) × (List Int) × List Int) → Option R
  | 0, _, _, _, _, _ => none
  | m + 1, out, x, x0, x1, m_0 =>
    bif decide (x1 < x0) then
      bif decide ((0 : Int) ≤ x1) && decide (x1 < ((List.length x : Nat) : Int)) then
        strconv_Itoa (List.getD x (Int.toNat x1) (0 : Int)) fun (r0 : ByteArray) =>
        bif decide (ByteArray.size out + ByteArray.size r0 ≤ maxGrow) then
          bif !(decide (m_0.1 = (0 : Int))) then
            bif decide (Int.tmod x1 m_0.1 = IntKind.wrap .i64 (m_0.1 - (1 : Int))) then
              bif decide (ByteArray.size (out ++ r0) + ByteArray.size (⟨#[10]⟩ : ByteArray) ≤ maxGrow) then
                impl_mapText_l0 k K0 m ((out ++ r0) ++ (⟨#[10]⟩ : ByteArray)) x x0 (IntKind.wrap .i64 (x1 + (1 : Int))) m_0
              else
                none
            else
              impl_mapText_l0 k K0 m (out ++ r0) x x0 (IntKind.wrap .i64 (x1 + (1 : Int))) m_0
          else
            none
        else
          none
      else
        none
    else
      K0 out m_0
def impl_mapText (k : Nat) (m_ : Int × Int × (List Int) × (List Int) × List Int) {R : Type} (K : ByteArray → Option R) : Option R :=
  impl_wordsText k (⟨#[109, 97, 112]⟩ : ByteArray) [m_.1, m_.2.1] fun (r : ByteArray) =>
  bif decide (ByteArray.size r + ByteArray.size (⟨#[10]⟩ : ByteArray) ≤ maxGrow) then
    impl_mapText_l0 k (fun (out0 : ByteArray) (m_1 : Int × Int × (List Int) × (List Int) × List Int) =>
      impl_wordsText k (⟨#[114, 105, 118, 101, 114, 115]⟩ : ByteArray) m_1.2.2.2.1 fun (r1 : ByteArray) =>
      bif decide (ByteArray.size out0 + ByteArray.size r1 ≤ maxGrow) then
        bif decide (ByteArray.size (out0 ++ r1) + ByteArray.size (⟨#[10]⟩ : ByteArray) ≤ maxGrow) then
          impl_wordsText k (⟨#[114, 111, 97, 100, 115]⟩ : ByteArray) m_1.2.2.2.2 fun (r2 : ByteArray) =>
          bif decide (ByteArray.size ((out0 ++ r1) ++ (⟨#[10]⟩ : ByteArray)) + ByteArray.size r2 ≤ maxGrow) then
            bif decide (ByteArray.size (((out0 ++ r1) ++ (⟨#[10]⟩ : ByteArray)) ++ r2) + ByteArray.size (⟨#[10]⟩ : ByteArray) ≤ maxGrow) then
              K ((((out0 ++ r1) ++ (⟨#[10]⟩ : ByteArray)) ++ r2) ++ (⟨#[10]⟩ : ByteArray))
            else
              none
          else
            none
        else
          none
      else
        none) k (r ++ (⟨#[10]⟩ : ByteArray)) m_.2.2.1 ((List.length m_.2.2.1 : Nat) : Int) (0 : Int) m_
  else
    none
/-- impl.MapText -/
def impl_MapText (k : Nat) (m_ : Int × Int × (List Int) × (List Int) × List Int) {R : Type} (K : ByteArray → Bool → Option R) : Option R :=
  impl_IsMap k m_ fun (r : Bool) =>
  bif !r then
    K (⟨#[]⟩ : ByteArray) false
  else
    impl_mapText k m_ fun (r0 : ByteArray) =>
    K r0 true
/-- laws.FnExactMapText -/
def laws_FnExactMapText (k : Nat) (aM : Int × Int × (List Int) × (List Int) × List Int) {R : Type} (K : Bool → Option R) : Option R :=
  laws_szMap aM (1048576 : Int) fun (r : Int) =>
  bif decide (r < (0 : Int)) then
    K true
  else
    laws_toMap k aM fun (r0 : Int × Int × (List Int) × (List Int) × List Int) =>
    spec_MapText k r0 fun (r1 : ByteArray) (r2 : Bool) =>
    laws_toMap k aM fun (r3 : Int × Int × (List Int) × (List Int) × List Int) =>
    impl_MapText k r3 fun (r4 : ByteArray) (r5 : Bool) =>
    bif !(ByteArray.toList r4 == ByteArray.toList r1) then
      K false
    else
      bif !(r5 == r2) then
        K false
      else
        laws_toMap k aM fun (r6 : Int × Int × (List Int) × (List Int) × List Int) =>
        laws_eqMap k r3 r6 fun (r7 : Bool) =>
        bif !r7 then
          K false
        else
          K true
end Go.Lg
set_option linter.unusedVariables false
namespace Go.Lg
open Go Go.Ev
/-- laws.szOddsS -/
def laws_szOddsS (a : List (Int × Int)) (left : Int) {R : Type} (K : Int → Option R) : Option R :=
  bif decide (IntKind.wrap .i64 (left - ((List.length a : Nat) : Int)) < (0 : Int)) then
    K (-1 : Int)
  else
    K (IntKind.wrap .i64 (left - ((List.length a : Nat) : Int)))
/-- laws.szIntSS -/
def laws_szIntSS_l0 (k : Nat) {R : Type} (K0 : Int → Option R) (K1 : Int → Option R) : Nat → (List (List Int)) → Int → Int → Option R
  | 0, _, _, _ => none
  | m + 1, a0, left0, i =>
    bif decide (i < ((List.length a0 : Nat) : Int)) then
      bif decide ((0 : Int) ≤ i) && decide (i < ((List.length a0 : Nat) : Int)) then
        laws_szIntS (List.getD a0 (Int.toNat i) []) left0 fun (r : Int) =>
        bif decide (r < (0 : Int)) then
          K1 (-1 : Int)
        else
          laws_szIntSS_l0 k K0 K1 m a0 r (IntKind.wrap .i64 (i + (1 : Int)))
      else
        none
    else
      K0 left0
def laws_szIntSS (k : Nat) (a : List (List Int)) (left : Int) {R : Type} (K : Int → Option R) : Option R :=
  bif decide (IntKind.wrap .i64 (left - ((List.length a : Nat) : Int)) < (0 : Int)) then
    K (-1 : Int)
  else
    laws_szIntSS_l0 k (fun (left1 : Int) =>
      K left1) (fun (x : Int) =>
      K x) k a (IntKind.wrap .i64 (left - ((List.length a : Nat) : Int))) (0 : Int)
/-- laws.szCombatTable -/
def laws_szCombatTable (k : Nat) (a : (List (Int × Int)) × Int × List (List Int)) (left : Int) {R : Type} (K : Int → Option R) : Option R :=
  laws_szOddsS a.1 left fun (r : Int) =>
  bif decide (r < (0 : Int)) then
    K (-1 : Int)
  else
    laws_szIntSS k a.2.2 r fun (r0 : Int) =>
    bif decide (r0 < (0 : Int)) then
      K (-1 : Int)
    else
      K r0
/-- laws.toOdds -/
def laws_toOdds (a : Int × Int) {R : Type} (K : (Int × Int) → Option R) : Option R :=
  K (a.1, a.2)
/-- laws.toOddsS -/
def laws_toOddsS_l0 (k : Nat) {R : Type} (K0 : (List (Int × Int)) → Option R) : Nat → (List (Int × Int)) → Int → (List (Int × Int)) → Option R
  | 0, _, _, _ => none
  | m + 1, a0, i, out =>
    bif decide (i < ((List.length a0 : Nat) : Int)) then
      bif decide ((0 : Int) ≤ i) && decide (i < ((List.length a0 : Nat) : Int)) then
        laws_toOdds (List.getD a0 (Int.toNat i) ((0 : Int), (0 : Int))) fun (r : Int × Int) =>
        bif decide ((0 : Int) ≤ i) && decide (i < ((List.length out : Nat) : Int)) then
          laws_toOddsS_l0 k K0 m a0 (IntKind.wrap .i64 (i + (1 : Int))) (List.set out (Int.toNat i) r)
        else
          none
      else
        none
    else
      K0 out
def laws_toOddsS (k : Nat) (a : List (Int × Int)) {R : Type} (K : (List (Int × Int)) → Option R) : Option R :=
  bif decide ((0 : Int) ≤ ((List.length a : Nat) : Int)) && decide (((List.length a : Nat) : Int) ≤ (137438953472 : Int)) && decide (((List.length a : Nat) : Int) = ((List.length a : Nat) : Int)) then
    laws_toOddsS_l0 k (fun (out0 : List (Int × Int)) =>
      K out0) k a (0 : Int) (List.replicate (Int.toNat ((List.length a : Nat) : Int)) ((0 : Int), (0 : Int)))
  else
    none
/-- laws.toIntSS -/
def laws_toIntSS_l0 (k : Nat) {R : Type} (K0 : (List (List Int)) → Option R) : Nat → (List (List Int)) → Int → (List (List Int)) → Option R
  | 0, _, _, _ => none
  | m + 1, a0, i, out =>
    bif decide (i < ((List.length a0 : Nat) : Int)) then
      bif decide ((0 : Int) ≤ i) && decide (i < ((List.length a0 : Nat) : Int)) then
        laws_toIntS k (List.getD a0 (Int.toNat i) []) fun (r : List Int) =>
        bif decide ((0 : Int) ≤ i) && decide (i < ((List.length out : Nat) : Int)) then
          laws_toIntSS_l0 k K0 m a0 (IntKind.wrap .i64 (i + (1 : Int))) (List.set out (Int.toNat i) r)
        else
          none
      else
        none
    else
      K0 out
def laws_toIntSS (k : Nat) (a : List (List Int)) {R : Type} (K : (List (List Int)) → Option R) : Option R :=
  bif decide ((0 : Int) ≤ ((List.length a : Nat) : Int)) && decide (((List.length a : Nat) : Int) ≤ (137438953472 : Int)) && decide (((List.length a : Nat) : Int) = ((List.length a : Nat) : Int)) then
    laws_toIntSS_l0 k (fun (out0 : List (List Int)) =>
      K out0) k a (0 : Int) (List.replicate (Int.toNat ((List.length a : Nat) : Int)) [])
  else
    none
/-- laws.toCombatTable -/
def laws_toCombatTable (k : Nat) (a : (List (Int × Int)) × Int × List (List Int)) {R : Type} (K : ((List (Int × Int)) × Int × List (List Int)) → Option R) : Option R :=
  laws_toOddsS k a.1 fun (r : List (Int × Int)) =>
  laws_toIntSS k a.2.2 fun (r0 : List (List Int)) =>
  K (r, (a.2.1, r0))
/-- spec.kRows -/
def spec_kRows (dice : Int) {R : Type} (K : Int → Option R) : Option R :=
  K (IntKind.wrap .i64 ((IntKind.wrap .i64 ((5 : Int) * dice)) + (1 : Int)))
/-- spec.kGood -/
def spec_kGood_l0 (k : Nat) {R : Type} (K0 : ((List (Int × Int)) × Int × List (List Int)) → Option R) (K1 : Bool → Option R) : Nat → (List (Int × Int)) → Int → Int → ((List (Int × Int)) × Int × List (List Int)) → Option R
  | 0, _, _, _, _ => none
  | m + 1, x0, x1, x2, x3 =>
    bif decide (x2 < x1) then
      bif decide ((0 : Int) ≤ x2) && decide (x2 < ((List.length x0 : Nat) : Int)) then
        spec_l1In (List.getD x0 (Int.toNat x2) ((0 : Int), (0 : Int))).1 (1 : Int) (20 : Int) fun (r2 : Bool) =>
        bif !r2 then
          K1 false
        else
          spec_l1In (List.getD x0 (Int.toNat x2) ((0 : Int), (0 : Int))).2 (1 : Int) (20 : Int) fun (r3 : Bool) =>
          bif !r3 then
            K1 false
          else
            bif decide ((0 : Int) < x2) then
              bif decide ((0 : Int) ≤ IntKind.wrap .i64 (x2 - (1 : Int))) && decide (IntKind.wrap .i64 (x2 - (1 : Int)) < ((List.length x3.1 : Nat) : Int)) then
                bif decide ((0 : Int) ≤ IntKind.wrap .i64 (x2 - (1 : Int))) && decide (IntKind.wrap .i64 (x2 - (1 : Int)) < ((List.length x3.1 : Nat) : Int)) then
                  bif decide (IntKind.wrap .i64 ((List.getD x0 (Int.toNat x2) ((0 : Int), (0 : Int))).1 * (List.getD x3.1 (Int.toNat (IntKind.wrap .i64 (x2 - (1 : Int)))) ((0 : Int), (0 : Int))).2) ≤ IntKind.wrap .i64 ((List.getD x3.1 (Int.toNat (IntKind.wrap .i64 (x2 - (1 : Int)))) ((0 : Int), (0 : Int))).1 * (List.getD x0 (Int.toNat x2) ((0 : Int), (0 : Int))).2)) then
                    K1 false
                  else
                    spec_kGood_l0 k K0 K1 m x0 x1 (IntKind.wrap .i64 (x2 + (1 : Int))) x3
                else
                  none
              else
                none
            else
              spec_kGood_l0 k K0 K1 m x0 x1 (IntKind.wrap .i64 (x2 + (1 : Int))) x3
      else
        none
    else
      K0 x3
def spec_kGood_l1 (k : Nat) {R : Type} (K0 : Option R) (K1 : Bool → Option R) : Nat → (List (List Int)) → Int → Int → ((List (Int × Int)) × Int × List (List Int)) → Option R
  | 0, _, _, _, _ => none
  | m + 1, x5, x6, x7, x8 =>
    bif decide (x7 < x6) then
      bif decide ((0 : Int) ≤ x7) && decide (x7 < ((List.length x5 : Nat) : Int)) then
        bif !(decide (((List.length (List.getD x5 (Int.toNat x7) []) : Nat) : Int) = ((List.length x8.1 : Nat) : Int))) then
          K1 false
        else
          spec_l1All k (List.getD x5 (Int.toNat x7) []) (0 : Int) (7 : Int) fun (r4 : Bool) =>
          bif !r4 then
            K1 false
          else
            spec_kGood_l1 k K0 K1 m x5 x6 (IntKind.wrap .i64 (x7 + (1 : Int))) x8
      else
        none
    else
      K0
def spec_kGood (k : Nat) (x : (List (Int × Int)) × Int × List (List Int)) {R : Type} (K : Bool → Option R) : Option R :=
  spec_l1In ((List.length x.1 : Nat) : Int) (1 : Int) (8 : Int) fun (r : Bool) =>
  bif !r then
    K false
  else
    spec_l1In x.2.1 (1 : Int) (2 : Int) fun (r0 : Bool) =>
    bif !r0 then
      K false
    else
      spec_kRows x.2.1 fun (r1 : Int) =>
      bif !(decide (((List.length x.2.2 : Nat) : Int) = r1)) then
        K false
      else
        spec_kGood_l0 k (fun (x4 : (List (Int × Int)) × Int × List (List Int)) =>
          spec_kGood_l1 k (
            K true) (fun (x9 : Bool) =>
            K x9) k x4.2.2 ((List.length x4.2.2 : Nat) : Int) (0 : Int) x4) (fun (x10 : Bool) =>
          K x10) k x.1 ((List.length x.1 : Nat) : Int) (0 : Int) x
/-- spec.IsCombatTable -/
def spec_IsCombatTable (k : Nat) (t : (List (Int × Int)) × Int × List (List Int)) {R : Type} (K : Bool → Option R) : Option R :=
  spec_kGood k t fun (r : Bool) =>
  K r
/-- impl.isResult -/
def impl_isResult (n_0 : Int) {R : Type} (K : Bool → Option R) : Option R :=
  impl_inRange n_0 (0 : Int) (7 : Int) fun (r : Bool) =>
  K r
/-- impl.IsCombatTable$1 -/
def impl_IsCombatTable_1 (n_0 : Int) {R : Type} (K : Bool → Option R) : Option R :=
  impl_isResult n_0 fun (r : Bool) =>
  K (!r)
/-- slices.IndexFunc[[]int,int] -/
def slices_IndexFunc_Sint_int__impl_IsCombatTable_1_l0 (k : Nat) {R : Type} (K0 : Option R) (K1 : Int → Option R) : Nat → (List Int) → Int → Int → Option R
  | 0, _, _, _ => none
  | m + 1, s0, x, x0 =>
    bif decide (x0 < x) then
      bif decide ((0 : Int) ≤ x0) && decide (x0 < ((List.length s0 : Nat) : Int)) then
        impl_IsCombatTable_1 (List.getD s0 (Int.toNat x0) (0 : Int)) fun (r : Bool) =>
        bif r then
          K1 x0
        else
          slices_IndexFunc_Sint_int__impl_IsCombatTable_1_l0 k K0 K1 m s0 x (IntKind.wrap .i64 (x0 + (1 : Int)))
      else
        none
    else
      K0
def slices_IndexFunc_Sint_int__impl_IsCombatTable_1 (k : Nat) (s : List Int) {R : Type} (K : Int → Option R) : Option R :=
  slices_IndexFunc_Sint_int__impl_IsCombatTable_1_l0 k (
    K (-1 : Int)) (fun (x1 : Int) =>
    K x1) k s ((List.length s : Nat) : Int) (0 : Int)
/-- slices.ContainsFunc[[]int,int] -/
def slices_ContainsFunc_Sint_int__impl_IsCombatTable_1 (k : Nat) (s : List Int) {R : Type} (K : Bool → Option R) : Option R :=
  slices_IndexFunc_Sint_int__impl_IsCombatTable_1 k s fun (r : Int) =>
  K (decide ((0 : Int) ≤ r))
/-- impl.IsCombatTable -/
def impl_IsCombatTable_l0 (k : Nat) {R : Type} (K0 : ((List (Int × Int)) × Int × List (List Int)) → Option R) (K1 : Bool → Option R) : Nat → (List (Int × Int)) → Int → Int → ((List (Int × Int)) × Int × List (List Int)) → Option R
  | 0, _, _, _, _ => none
  | m + 1, x0, x1, x2, x3 =>
    bif decide (x2 < x1) then
      bif decide ((0 : Int) ≤ x2) && decide (x2 < ((List.length x0 : Nat) : Int)) then
        impl_inRange (List.getD x0 (Int.toNat x2) ((0 : Int), (0 : Int))).1 (1 : Int) (20 : Int) fun (r1 : Bool) =>
        bif !r1 then
          K1 false
        else
          impl_inRange (List.getD x0 (Int.toNat x2) ((0 : Int), (0 : Int))).2 (1 : Int) (20 : Int) fun (r2 : Bool) =>
          bif !r2 then
            K1 false
          else
            bif decide ((0 : Int) < x2) then
              bif decide ((0 : Int) ≤ IntKind.wrap .i64 (x2 - (1 : Int))) && decide (IntKind.wrap .i64 (x2 - (1 : Int)) < ((List.length x3.1 : Nat) : Int)) then
                bif decide ((0 : Int) ≤ IntKind.wrap .i64 (x2 - (1 : Int))) && decide (IntKind.wrap .i64 (x2 - (1 : Int)) < ((List.length x3.1 : Nat) : Int)) then
                  bif decide (IntKind.wrap .i64 ((List.getD x0 (Int.toNat x2) ((0 : Int), (0 : Int))).1 * (List.getD x3.1 (Int.toNat (IntKind.wrap .i64 (x2 - (1 : Int)))) ((0 : Int), (0 : Int))).2) ≤ IntKind.wrap .i64 ((List.getD x3.1 (Int.toNat (IntKind.wrap .i64 (x2 - (1 : Int)))) ((0 : Int), (0 : Int))).1 * (List.getD x0 (Int.toNat x2) ((0 : Int), (0 : Int))).2)) then
                    K1 false
                  else
                    impl_IsCombatTable_l0 k K0 K1 m x0 x1 (IntKind.wrap .i64 (x2 + (1 : Int))) x3
                else
                  none
              else
                none
            else
              impl_IsCombatTable_l0 k K0 K1 m x0 x1 (IntKind.wrap .i64 (x2 + (1 : Int))) x3
      else
        none
    else
      K0 x3
def impl_IsCombatTable_l1 (k : Nat) {R : Type} (K0 : Option R) (K1 : Bool → Option R) : Nat → (List (List Int)) → Int → Int → ((List (Int × Int)) × Int × List (List Int)) → Option R
  | 0, _, _, _, _ => none
  | m + 1, x5, x6, x7, x8 =>
    bif decide (x7 < x6) then
      bif decide ((0 : Int) ≤ x7) && decide (x7 < ((List.length x5 : Nat) : Int)) then
        bif !(decide (((List.length (List.getD x5 (Int.toNat x7) []) : Nat) : Int) = ((List.length x8.1 : Nat) : Int))) then
          K1 false
        else
          slices_ContainsFunc_Sint_int__impl_IsCombatTable_1 k (List.getD x5 (Int.toNat x7) []) fun (r3 : Bool) =>
          bif r3 then
            K1 false
          else
            impl_IsCombatTable_l1 k K0 K1 m x5 x6 (IntKind.wrap .i64 (x7 + (1 : Int))) x8
      else
        none
    else
      K0
def impl_IsCombatTable (k : Nat) (x : (List (Int × Int)) × Int × List (List Int)) {R : Type} (K : Bool → Option R) : Option R :=
  impl_inRange ((List.length x.1 : Nat) : Int) (1 : Int) (8 : Int) fun (r : Bool) =>
  bif !r then
    K false
  else
    impl_inRange x.2.1 (1 : Int) (2 : Int) fun (r0 : Bool) =>
    bif !r0 then
      K false
    else
      bif !(decide (((List.length x.2.2 : Nat) : Int) = IntKind.wrap .i64 ((IntKind.wrap .i64 ((5 : Int) * x.2.1)) + (1 : Int)))) then
        K false
      else
        impl_IsCombatTable_l0 k (fun (x4 : (List (Int × Int)) × Int × List (List Int)) =>
          impl_IsCombatTable_l1 k (
            K true) (fun (x9 : Bool) =>
            K x9) k x4.2.2 ((List.length x4.2.2 : Nat) : Int) (0 : Int) x4) (fun (x10 : Bool) =>
          K x10) k x.1 ((List.length x.1 : Nat) : Int) (0 : Int) x
/-- laws.eqOdds -/
def laws_eqOdds (a : Int × Int) (b : Int × Int) {R : Type} (K : Bool → Option R) : Option R :=
  bif !(decide (a.1 = b.1)) then
    K false
  else
    bif !(decide (a.2 = b.2)) then
      K false
    else
      K true
/-- laws.eqOddsS -/
def laws_eqOddsS_l0 (k : Nat) {R : Type} (K0 : Option R) (K1 : Bool → Option R) : Nat → (List (Int × Int)) → (List (Int × Int)) → Int → Option R
  | 0, _, _, _ => none
  | m + 1, a0, b0, i =>
    bif decide (i < ((List.length a0 : Nat) : Int)) then
      bif decide ((0 : Int) ≤ i) && decide (i < ((List.length a0 : Nat) : Int)) then
        bif decide ((0 : Int) ≤ i) && decide (i < ((List.length b0 : Nat) : Int)) then
          laws_eqOdds (List.getD a0 (Int.toNat i) ((0 : Int), (0 : Int))) (List.getD b0 (Int.toNat i) ((0 : Int), (0 : Int))) fun (r : Bool) =>
          bif !r then
            K1 false
          else
            laws_eqOddsS_l0 k K0 K1 m a0 b0 (IntKind.wrap .i64 (i + (1 : Int)))
        else
          none
      else
        none
    else
      K0
def laws_eqOddsS (k : Nat) (a : List (Int × Int)) (b : List (Int × Int)) {R : Type} (K : Bool → Option R) : Option R :=
  bif !(decide (((List.length a : Nat) : Int) = ((List.length b : Nat) : Int))) then
    K false
  else
    laws_eqOddsS_l0 k (
      K true) (fun (x : Bool) =>
      K x) k a b (0 : Int)
/-- laws.eqIntSS -/
def laws_eqIntSS_l0 (k : Nat) {R : Type} (K0 : Option R) (K1 : Bool → Option R) : Nat → (List (List Int)) → (List (List Int)) → Int → Option R
  | 0, _, _, _ => none
  | m + 1, a0, b0, i =>
    bif decide (i < ((List.length a0 : Nat) : Int)) then
      bif decide ((0 : Int) ≤ i) && decide (i < ((List.length a0 : Nat) : Int)) then
        bif decide ((0 : Int) ≤ i) && decide (i < ((List.length b0 : Nat) : Int)) then
          laws_eqIntS k (List.getD a0 (Int.toNat i) []) (List.getD b0 (Int.toNat i) []) fun (r : Bool) =>
          bif !r then
            K1 false
          else
            laws_eqIntSS_l0 k K0 K1 m a0 b0 (IntKind.wrap .i64 (i + (1 : Int)))
        else
          none
      else
        none
    else
      K0
def laws_eqIntSS (k : Nat) (a : List (List Int)) (b : List (List Int)) {R : Type} (K : Bool → Option R) : Option R :=
  bif !(decide (((List.length a : Nat) : Int) = ((List.length b : Nat) : Int))) then
    K false
  else
    laws_eqIntSS_l0 k (
      K true) (fun (x : Bool) =>
      K x) k a b (0 : Int)
/-- laws.eqCombatTable -/
def laws_eqCombatTable (k : Nat) (a : (List (Int × Int)) × Int × List (List Int)) (b : (List (Int × Int)) × Int × List (List Int)) {R : Type} (K : Bool → Option R) : Option R :=
  laws_eqOddsS k a.1 b.1 fun (r : Bool) =>
  bif !r then
    K false
  else
    bif !(decide (a.2.1 = b.2.1)) then
      K false
    else
      laws_eqIntSS k a.2.2 b.2.2 fun (r0 : Bool) =>
      bif !r0 then
        K false
      else
        K true
/-- laws.FnExactIsCombatTable -/
def laws_FnExactIsCombatTable (k : Nat) (aT : (List (Int × Int)) × Int × List (List Int)) {R : Type} (K : Bool → Option R) : Option R :=
  laws_szCombatTable k aT (1048576 : Int) fun (r : Int) =>
  bif decide (r < (0 : Int)) then
    K true
  else
    laws_toCombatTable k aT fun (r0 : (List (Int × Int)) × Int × List (List Int)) =>
    spec_IsCombatTable k r0 fun (r1 : Bool) =>
    laws_toCombatTable k aT fun (r2 : (List (Int × Int)) × Int × List (List Int)) =>
    impl_IsCombatTable k r2 fun (r3 : Bool) =>
    bif !(r3 == r1) then
      K false
    else
      laws_toCombatTable k aT fun (r4 : (List (Int × Int)) × Int × List (List Int)) =>
      laws_eqCombatTable k r2 r4 fun (r5 : Bool) =>
      bif !r5 then
        K false
      else
        K true
/-- spec.kAsked -/
def spec_kAsked (k : Nat) (t : (List (Int × Int)) × Int × List (List Int)) (column : Int) {R : Type} (K : Bool → Option R) : Option R :=
  spec_kGood k t fun (r : Bool) =>
  bif r then
    spec_l1In column (0 : Int) (IntKind.wrap .i64 (((List.length t.1 : Nat) : Int) - (1 : Int))) fun (r0 : Bool) =>
    K r0
  else
    K false
/-- spec.kResult -/
def spec_kResult (t : (List (Int × Int)) × Int × List (List Int)) (roll : Int) (column : Int) {R : Type} (K : Int → Option R) : Option R :=
  bif decide ((0 : Int) ≤ IntKind.wrap .i64 (roll - t.2.1)) && decide (IntKind.wrap .i64 (roll - t.2.1) < ((List.length t.2.2 : Nat) : Int)) then
    bif decide ((0 : Int) ≤ column) && decide (column < ((List.length (List.getD t.2.2 (Int.toNat (IntKind.wrap .i64 (roll - t.2.1))) []) : Nat) : Int)) then
      K (List.getD (List.getD t.2.2 (Int.toNat (IntKind.wrap .i64 (roll - t.2.1))) []) (Int.toNat column) (0 : Int))
    else
      none
  else
    none
/-- spec.ResultAt -/
def spec_ResultAt (k : Nat) (t : (List (Int × Int)) × Int × List (List Int)) (roll : Int) (column : Int) {R : Type} (K : Int → Bool → Option R) : Option R :=
  spec_kAsked k t column fun (r : Bool) =>
  bif !r then
    K (0 : Int) false
  else
    spec_l1In roll t.2.1 (IntKind.wrap .i64 ((6 : Int) * t.2.1)) fun (r0 : Bool) =>
    bif !r0 then
      K (0 : Int) false
    else
      spec_kResult t roll column fun (r1 : Int) =>
      K r1 true
/-- impl.isColumn -/
def impl_isColumn (k : Nat) (t : (List (Int × Int)) × Int × List (List Int)) (column : Int) {R : Type} (K : Bool → Option R) : Option R :=
  impl_IsCombatTable k t fun (r : Bool) =>
  bif r then
    impl_isIndex column ((List.length t.1 : Nat) : Int) fun (r0 : Bool) =>
    K r0
  else
    K false
/-- impl.ResultAt -/
def impl_ResultAt (k : Nat) (t : (List (Int × Int)) × Int × List (List Int)) (roll : Int) (column : Int) {R : Type} (K : Int → Bool → Option R) : Option R :=
  impl_isColumn k t column fun (r : Bool) =>
  bif !r then
    K (0 : Int) false
  else
    impl_inRange roll t.2.1 (IntKind.wrap .i64 ((6 : Int) * t.2.1)) fun (r0 : Bool) =>
    bif !r0 then
      K (0 : Int) false
    else
      bif decide ((0 : Int) ≤ IntKind.wrap .i64 (roll - t.2.1)) && decide (IntKind.wrap .i64 (roll - t.2.1) < ((List.length t.2.2 : Nat) : Int)) then
        bif decide ((0 : Int) ≤ column) && decide (column < ((List.length (List.getD t.2.2 (Int.toNat (IntKind.wrap .i64 (roll - t.2.1))) []) : Nat) : Int)) then
          K (List.getD (List.getD t.2.2 (Int.toNat (IntKind.wrap .i64 (roll - t.2.1))) []) (Int.toNat column) (0 : Int)) true
        else
          none
      else
        none
/-- laws.FnExactResultAt -/
def laws_FnExactResultAt (k : Nat) (aT : (List (Int × Int)) × Int × List (List Int)) (aRoll : Int) (aColumn : Int) {R : Type} (K : Bool → Option R) : Option R :=
  laws_szCombatTable k aT (1048576 : Int) fun (r : Int) =>
  bif decide (r < (0 : Int)) then
    K true
  else
    laws_toCombatTable k aT fun (r0 : (List (Int × Int)) × Int × List (List Int)) =>
    spec_ResultAt k r0 aRoll aColumn fun (r1 : Int) (r2 : Bool) =>
    laws_toCombatTable k aT fun (r3 : (List (Int × Int)) × Int × List (List Int)) =>
    impl_ResultAt k r3 aRoll aColumn fun (r4 : Int) (r5 : Bool) =>
    bif !(decide (r4 = r1)) then
      K false
    else
      bif !(r5 == r2) then
        K false
      else
        laws_toCombatTable k aT fun (r6 : (List (Int × Int)) × Int × List (List Int)) =>
        laws_eqCombatTable k r3 r6 fun (r7 : Bool) =>
        bif !r7 then
          K false
        else
          K true
/-- spec.kColumn -/
def spec_kColumn_l0 (k : Nat) {R : Type} (K0 : Int → Option R) : Nat → Int → Int → Int → (List (Int × Int)) → Int → Int → Option R
  | 0, _, _, _, _, _, _ => none
  | m + 1, attack0, defence0, best, x, x0, x1 =>
    bif decide (x1 < x0) then
      bif decide ((0 : Int) ≤ x1) && decide (x1 < ((List.length x : Nat) : Int)) then
        bif decide (IntKind.wrap .i64 (defence0 * (List.getD x (Int.toNat x1) ((0 : Int), (0 : Int))).1) ≤ IntKind.wrap .i64 (attack0 * (List.getD x (Int.toNat x1) ((0 : Int), (0 : Int))).2)) then
          spec_kColumn_l0 k K0 m attack0 defence0 x1 x x0 (IntKind.wrap .i64 (x1 + (1 : Int)))
        else
          spec_kColumn_l0 k K0 m attack0 defence0 best x x0 (IntKind.wrap .i64 (x1 + (1 : Int)))
      else
        none
    else
      K0 best
def spec_kColumn (k : Nat) (t : (List (Int × Int)) × Int × List (List Int)) (attack : Int) (defence : Int) {R : Type} (K : Int → Option R) : Option R :=
  spec_kColumn_l0 k (fun (best0 : Int) =>
    K best0) k attack defence (0 : Int) t.1 ((List.length t.1 : Nat) : Int) (0 : Int)
/-- spec.ColumnFor -/
def spec_ColumnFor (k : Nat) (t : (List (Int × Int)) × Int × List (List Int)) (attack : Int) (defence : Int) {R : Type} (K : Int → Bool → Option R) : Option R :=
  spec_kGood k t fun (r : Bool) =>
  bif !r then
    K (0 : Int) false
  else
    spec_l1In attack (0 : Int) (1000 : Int) fun (r0 : Bool) =>
    bif !r0 then
      K (0 : Int) false
    else
      spec_l1In defence (0 : Int) (1000 : Int) fun (r1 : Bool) =>
      bif !r1 then
        K (0 : Int) false
      else
        spec_kColumn k t attack defence fun (r2 : Int) =>
        K r2 true
/-- impl.columnFor -/
def impl_columnFor_l0 (k : Nat) {R : Type} (K0 : Int → Option R) : Nat → Int → Int → Int → (List (Int × Int)) → Int → Int → Option R
  | 0, _, _, _, _, _, _ => none
  | m + 1, attack0, defence0, column, x, x0, x1 =>
    bif decide (x1 < x0) then
      bif decide ((0 : Int) ≤ x1) && decide (x1 < ((List.length x : Nat) : Int)) then
        bif decide (IntKind.wrap .i64 (defence0 * (List.getD x (Int.toNat x1) ((0 : Int), (0 : Int))).1) ≤ IntKind.wrap .i64 (attack0 * (List.getD x (Int.toNat x1) ((0 : Int), (0 : Int))).2)) then
          impl_columnFor_l0 k K0 m attack0 defence0 x1 x x0 (IntKind.wrap .i64 (x1 + (1 : Int)))
        else
          impl_columnFor_l0 k K0 m attack0 defence0 column x x0 (IntKind.wrap .i64 (x1 + (1 : Int)))
      else
        none
    else
      K0 column
def impl_columnFor (k : Nat) (t : (List (Int × Int)) × Int × List (List Int)) (attack : Int) (defence : Int) {R : Type} (K : Int → Option R) : Option R :=
  impl_columnFor_l0 k (fun (column0 : Int) =>
    K column0) k attack defence (0 : Int) t.1 ((List.length t.1 : Nat) : Int) (0 : Int)
/-- impl.ColumnFor -/
def impl_ColumnFor (k : Nat) (t : (List (Int × Int)) × Int × List (List Int)) (attack : Int) (defence : Int) {R : Type} (K : Int → Bool → Option R) : Option R :=
  impl_IsCombatTable k t fun (r : Bool) =>
  bif !r then
    K (0 : Int) false
  else
    impl_inRange attack (0 : Int) (1000 : Int) fun (r0 : Bool) =>
    bif !r0 then
      K (0 : Int) false
    else
      impl_inRange defence (0 : Int) (1000 : Int) fun (r1 : Bool) =>
      bif !r1 then
        K (0 : Int) false
      else
        impl_columnFor k t attack defence fun (r2 : Int) =>
        K r2 true
/-- laws.FnExactColumnFor -/
def laws_FnExactColumnFor (k : Nat) (aT : (List (Int × Int)) × Int × List (List Int)) (aAttack : Int) (aDefence : Int) {R : Type} (K : Bool → Option R) : Option R :=
  laws_szCombatTable k aT (1048576 : Int) fun (r : Int) =>
  bif decide (r < (0 : Int)) then
    K true
  else
    laws_toCombatTable k aT fun (r0 : (List (Int × Int)) × Int × List (List Int)) =>
    spec_ColumnFor k r0 aAttack aDefence fun (r1 : Int) (r2 : Bool) =>
    laws_toCombatTable k aT fun (r3 : (List (Int × Int)) × Int × List (List Int)) =>
    impl_ColumnFor k r3 aAttack aDefence fun (r4 : Int) (r5 : Bool) =>
    bif !(decide (r4 = r1)) then
      K false
    else
      bif !(r5 == r2) then
        K false
      else
        laws_toCombatTable k aT fun (r6 : (List (Int × Int)) × Int × List (List Int)) =>
        laws_eqCombatTable k r3 r6 fun (r7 : Bool) =>
        bif !r7 then
          K false
        else
          K true
/-- spec.l1Least -/
def spec_l1Least (a : Int) (b : Int) {R : Type} (K : Int → Option R) : Option R :=
  bif decide (a < b) then
    K a
  else
    K b
/-- spec.kShift -/
def spec_kShift (t : (List (Int × Int)) × Int × List (List Int)) (column : Int) (shift : Int) {R : Type} (K : Int → Option R) : Option R :=
  spec_l1Least (IntKind.wrap .i64 (((List.length t.1 : Nat) : Int) - (1 : Int))) (IntKind.wrap .i64 (column + shift)) fun (r : Int) =>
  spec_l1Most (0 : Int) r fun (r0 : Int) =>
  K r0
/-- spec.ShiftColumn -/
def spec_ShiftColumn (k : Nat) (t : (List (Int × Int)) × Int × List (List Int)) (column : Int) (shift : Int) {R : Type} (K : Int → Bool → Option R) : Option R :=
  spec_kAsked k t column fun (r : Bool) =>
  bif !r then
    K (0 : Int) false
  else
    spec_l1In shift (-10 : Int) (10 : Int) fun (r0 : Bool) =>
    bif !r0 then
      K (0 : Int) false
    else
      spec_kShift t column shift fun (r1 : Int) =>
      K r1 true
/-- impl.shiftColumn -/
def impl_shiftColumn (t : (List (Int × Int)) × Int × List (List Int)) (column : Int) (shift : Int) {R : Type} (K : Int → Option R) : Option R :=
  K (if (IntKind.wrap .i64 (((List.length t.1 : Nat) : Int) - (1 : Int))) < (if (0 : Int) > (IntKind.wrap .i64 (column + shift)) then (0 : Int) else IntKind.wrap .i64 (column + shift)) then IntKind.wrap .i64 (((List.length t.1 : Nat) : Int) - (1 : Int)) else if (0 : Int) > (IntKind.wrap .i64 (column + shift)) then (0 : Int) else IntKind.wrap .i64 (column + shift))
/-- impl.ShiftColumn -/
def impl_ShiftColumn (k : Nat) (t : (List (Int × Int)) × Int × List (List Int)) (column : Int) (shift : Int) {R : Type} (K : Int → Bool → Option R) : Option R :=
  impl_isColumn k t column fun (r : Bool) =>
  bif !r then
    K (0 : Int) false
  else
    impl_inRange shift (-10 : Int) (10 : Int) fun (r0 : Bool) =>
    bif !r0 then
      K (0 : Int) false
    else
      impl_shiftColumn t column shift fun (r1 : Int) =>
      K r1 true
/-- laws.FnExactShiftColumn -/
def laws_FnExactShiftColumn (k : Nat) (aT : (List (Int × Int)) × Int × List (List Int)) (aColumn : Int) (aShift : Int) {R : Type} (K : Bool → Option R) : Option R :=
  laws_szCombatTable k aT (1048576 : Int) fun (r : Int) =>
  bif decide (r < (0 : Int)) then
    K true
  else
    laws_toCombatTable k aT fun (r0 : (List (Int × Int)) × Int × List (List Int)) =>
    spec_ShiftColumn k r0 aColumn aShift fun (r1 : Int) (r2 : Bool) =>
    laws_toCombatTable k aT fun (r3 : (List (Int × Int)) × Int × List (List Int)) =>
    impl_ShiftColumn k r3 aColumn aShift fun (r4 : Int) (r5 : Bool) =>
    bif !(decide (r4 = r1)) then
      K false
    else
      bif !(r5 == r2) then
        K false
      else
        laws_toCombatTable k aT fun (r6 : (List (Int × Int)) × Int × List (List Int)) =>
        laws_eqCombatTable k r3 r6 fun (r7 : Bool) =>
        bif !r7 then
          K false
        else
          K true
/-- spec.kScore -/
def spec_kScore (result : Int) {R : Type} (K : Int → Option R) : Option R :=
  bif decide (result = (7 : Int)) then
    K (0 : Int)
  else
    bif decide ((4 : Int) ≤ result) then
      K (IntKind.wrap .i64 ((3 : Int) - result))
    else
      K result
/-- spec.IsMonotone -/
def spec_IsMonotone_l0 (k : Nat) {R : Type} (K0 : (List (List Int)) → Int → Int → ((List (Int × Int)) × Int × List (List Int)) → Option R) (K1 : Bool → Bool → Option R) : Nat → Int → (List Int) → (List (List Int)) → Int → Int → (List Int) → Int → Int → ((List (Int × Int)) × Int × List (List Int)) → Option R
  | 0, _, _, _, _, _, _, _, _, _ => none
  | m + 1, i, row, x2, x3, x4, x5, x6, x7, t1 =>
    bif decide (x7 < x6) then
      bif decide ((0 : Int) ≤ x7) && decide (x7 < ((List.length x5 : Nat) : Int)) then
        bif decide ((0 : Int) < x7) then
          bif decide ((0 : Int) ≤ IntKind.wrap .i64 (x7 - (1 : Int))) && decide (IntKind.wrap .i64 (x7 - (1 : Int)) < ((List.length row : Nat) : Int)) then
            spec_kScore (List.getD row (Int.toNat (IntKind.wrap .i64 (x7 - (1 : Int)))) (0 : Int)) fun (r0 : Int) =>
            spec_kScore (List.getD x5 (Int.toNat x7) (0 : Int)) fun (r1 : Int) =>
            bif decide (r1 < r0) then
              K1 false true
            else
              bif decide ((0 : Int) < i) then
                bif decide ((0 : Int) ≤ IntKind.wrap .i64 (i - (1 : Int))) && decide (IntKind.wrap .i64 (i - (1 : Int)) < ((List.length t1.2.2 : Nat) : Int)) then
                  bif decide ((0 : Int) ≤ x7) && decide (x7 < ((List.length (List.getD t1.2.2 (Int.toNat (IntKind.wrap .i64 (i - (1 : Int)))) []) : Nat) : Int)) then
                    spec_kScore (List.getD (List.getD t1.2.2 (Int.toNat (IntKind.wrap .i64 (i - (1 : Int)))) []) (Int.toNat x7) (0 : Int)) fun (r2 : Int) =>
                    spec_kScore (List.getD x5 (Int.toNat x7) (0 : Int)) fun (r3 : Int) =>
                    bif decide (r3 < r2) then
                      K1 false true
                    else
                      spec_IsMonotone_l0 k K0 K1 m i row x2 x3 x4 x5 x6 (IntKind.wrap .i64 (x7 + (1 : Int))) t1
                  else
                    none
                else
                  none
              else
                spec_IsMonotone_l0 k K0 K1 m i row x2 x3 x4 x5 x6 (IntKind.wrap .i64 (x7 + (1 : Int))) t1
          else
            none
        else
          bif decide ((0 : Int) < i) then
            bif decide ((0 : Int) ≤ IntKind.wrap .i64 (i - (1 : Int))) && decide (IntKind.wrap .i64 (i - (1 : Int)) < ((List.length t1.2.2 : Nat) : Int)) then
              bif decide ((0 : Int) ≤ x7) && decide (x7 < ((List.length (List.getD t1.2.2 (Int.toNat (IntKind.wrap .i64 (i - (1 : Int)))) []) : Nat) : Int)) then
                spec_kScore (List.getD (List.getD t1.2.2 (Int.toNat (IntKind.wrap .i64 (i - (1 : Int)))) []) (Int.toNat x7) (0 : Int)) fun (r4 : Int) =>
                spec_kScore (List.getD x5 (Int.toNat x7) (0 : Int)) fun (r5 : Int) =>
                bif decide (r5 < r4) then
                  K1 false true
                else
                  spec_IsMonotone_l0 k K0 K1 m i row x2 x3 x4 x5 x6 (IntKind.wrap .i64 (x7 + (1 : Int))) t1
              else
                none
            else
              none
          else
            spec_IsMonotone_l0 k K0 K1 m i row x2 x3 x4 x5 x6 (IntKind.wrap .i64 (x7 + (1 : Int))) t1
      else
        none
    else
      K0 x2 x3 x4 t1
def spec_IsMonotone_l1 (k : Nat) {R : Type} (K0 : Option R) (K1 : Bool → Bool → Option R) : Nat → (List (List Int)) → Int → Int → ((List (Int × Int)) × Int × List (List Int)) → Option R
  | 0, _, _, _, _ => none
  | m + 1, x, x0, x1, t0 =>
    bif decide (x1 < x0) then
      bif decide ((0 : Int) ≤ x1) && decide (x1 < ((List.length x : Nat) : Int)) then
        spec_IsMonotone_l0 k (fun (x8 : List (List Int)) (x9 : Int) (x10 : Int) (t2 : (List (Int × Int)) × Int × List (List Int)) =>
          spec_IsMonotone_l1 k K0 K1 m x8 x9 (IntKind.wrap .i64 (x10 + (1 : Int))) t2) (fun (x11 : Bool) (x12 : Bool) =>
          K1 x11 x12) k x1 (List.getD x (Int.toNat x1) []) x x0 x1 (List.getD x (Int.toNat x1) []) ((List.length (List.getD x (Int.toNat x1) []) : Nat) : Int) (0 : Int) t0
      else
        none
    else
      K0
def spec_IsMonotone (k : Nat) (t : (List (Int × Int)) × Int × List (List Int)) {R : Type} (K : Bool → Bool → Option R) : Option R :=
  spec_kGood k t fun (r : Bool) =>
  bif !r then
    K false false
  else
    spec_IsMonotone_l1 k (
      K true true) (fun (x13 : Bool) (x14 : Bool) =>
      K x13 x14) k t.2.2 ((List.length t.2.2 : Nat) : Int) (0 : Int) t
/-- impl.scoreOf -/
def impl_scoreOf (result : Int) {R : Type} (K : Int → Option R) : Option R :=
  bif decide (result = (6 : Int)) then
    K (-3 : Int)
  else
    bif decide (result = (5 : Int)) then
      K (-2 : Int)
    else
      bif decide (result = (4 : Int)) then
        K (-1 : Int)
      else
        bif decide (result = (1 : Int)) then
          K (1 : Int)
        else
          bif decide (result = (2 : Int)) then
            K (2 : Int)
          else
            bif decide (result = (3 : Int)) then
              K (3 : Int)
            else
              K (0 : Int)
/-- impl.IsMonotone -/
def impl_IsMonotone_l0 (k : Nat) {R : Type} (K0 : (List (List Int)) → Int → Int → ((List (Int × Int)) × Int × List (List Int)) → Option R) (K1 : Bool → Bool → Option R) : Nat → Int → (List Int) → (List (List Int)) → Int → Int → Int → Int → ((List (Int × Int)) × Int × List (List Int)) → Option R
  | 0, _, _, _, _, _, _, _, _ => none
  | m + 1, r0, row, x2, x3, x4, x5, x6, t1 =>
    bif decide (x6 < x5) then
      bif decide ((0 : Int) < x6) then
        bif decide ((0 : Int) ≤ IntKind.wrap .i64 (x6 - (1 : Int))) && decide (IntKind.wrap .i64 (x6 - (1 : Int)) < ((List.length row : Nat) : Int)) then
          impl_scoreOf (List.getD row (Int.toNat (IntKind.wrap .i64 (x6 - (1 : Int)))) (0 : Int)) fun (r1 : Int) =>
          bif decide ((0 : Int) ≤ x6) && decide (x6 < ((List.length row : Nat) : Int)) then
            impl_scoreOf (List.getD row (Int.toNat x6) (0 : Int)) fun (r2 : Int) =>
            bif decide (r2 < r1) then
              K1 false true
            else
              bif decide ((0 : Int) < r0) then
                bif decide ((0 : Int) ≤ IntKind.wrap .i64 (r0 - (1 : Int))) && decide (IntKind.wrap .i64 (r0 - (1 : Int)) < ((List.length t1.2.2 : Nat) : Int)) then
                  bif decide ((0 : Int) ≤ x6) && decide (x6 < ((List.length (List.getD t1.2.2 (Int.toNat (IntKind.wrap .i64 (r0 - (1 : Int)))) []) : Nat) : Int)) then
                    impl_scoreOf (List.getD (List.getD t1.2.2 (Int.toNat (IntKind.wrap .i64 (r0 - (1 : Int)))) []) (Int.toNat x6) (0 : Int)) fun (r3 : Int) =>
                    bif decide ((0 : Int) ≤ x6) && decide (x6 < ((List.length row : Nat) : Int)) then
                      impl_scoreOf (List.getD row (Int.toNat x6) (0 : Int)) fun (r4 : Int) =>
                      bif decide (r4 < r3) then
                        K1 false true
                      else
                        impl_IsMonotone_l0 k K0 K1 m r0 row x2 x3 x4 x5 (IntKind.wrap .i64 (x6 + (1 : Int))) t1
                    else
                      none
                  else
                    none
                else
                  none
              else
                impl_IsMonotone_l0 k K0 K1 m r0 row x2 x3 x4 x5 (IntKind.wrap .i64 (x6 + (1 : Int))) t1
          else
            none
        else
          none
      else
        bif decide ((0 : Int) < r0) then
          bif decide ((0 : Int) ≤ IntKind.wrap .i64 (r0 - (1 : Int))) && decide (IntKind.wrap .i64 (r0 - (1 : Int)) < ((List.length t1.2.2 : Nat) : Int)) then
            bif decide ((0 : Int) ≤ x6) && decide (x6 < ((List.length (List.getD t1.2.2 (Int.toNat (IntKind.wrap .i64 (r0 - (1 : Int)))) []) : Nat) : Int)) then
              impl_scoreOf (List.getD (List.getD t1.2.2 (Int.toNat (IntKind.wrap .i64 (r0 - (1 : Int)))) []) (Int.toNat x6) (0 : Int)) fun (r5 : Int) =>
              bif decide ((0 : Int) ≤ x6) && decide (x6 < ((List.length row : Nat) : Int)) then
                impl_scoreOf (List.getD row (Int.toNat x6) (0 : Int)) fun (r6 : Int) =>
                bif decide (r6 < r5) then
                  K1 false true
                else
                  impl_IsMonotone_l0 k K0 K1 m r0 row x2 x3 x4 x5 (IntKind.wrap .i64 (x6 + (1 : Int))) t1
              else
                none
            else
              none
          else
            none
        else
          impl_IsMonotone_l0 k K0 K1 m r0 row x2 x3 x4 x5 (IntKind.wrap .i64 (x6 + (1 : Int))) t1
    else
      K0 x2 x3 x4 t1
def impl_IsMonotone_l1 (k : Nat) {R : Type} (K0 : Option R) (K1 : Bool → Bool → Option R) : Nat → (List (List Int)) → Int → Int → ((List (Int × Int)) × Int × List (List Int)) → Option R
  | 0, _, _, _, _ => none
  | m + 1, x, x0, x1, t0 =>
    bif decide (x1 < x0) then
      bif decide ((0 : Int) ≤ x1) && decide (x1 < ((List.length x : Nat) : Int)) then
        impl_IsMonotone_l0 k (fun (x7 : List (List Int)) (x8 : Int) (x9 : Int) (t2 : (List (Int × Int)) × Int × List (List Int)) =>
          impl_IsMonotone_l1 k K0 K1 m x7 x8 (IntKind.wrap .i64 (x9 + (1 : Int))) t2) (fun (x10 : Bool) (x11 : Bool) =>
          K1 x10 x11) k x1 (List.getD x (Int.toNat x1) []) x x0 x1 ((List.length (List.getD x (Int.toNat x1) []) : Nat) : Int) (0 : Int) t0
      else
        none
    else
      K0
def impl_IsMonotone (k : Nat) (t : (List (Int × Int)) × Int × List (List Int)) {R : Type} (K : Bool → Bool → Option R) : Option R :=
  impl_IsCombatTable k t fun (r : Bool) =>
  bif !r then
    K false false
  else
    impl_IsMonotone_l1 k (
      K true true) (fun (x12 : Bool) (x13 : Bool) =>
      K x12 x13) k t.2.2 ((List.length t.2.2 : Nat) : Int) (0 : Int) t
/-- laws.FnExactIsMonotone -/
def laws_FnExactIsMonotone (k : Nat) (aT : (List (Int × Int)) × Int × List (List Int)) {R : Type} (K : Bool → Option R) : Option R :=
  laws_szCombatTable k aT (1048576 : Int) fun (r : Int) =>
  bif decide (r < (0 : Int)) then
    K true
  else
    laws_toCombatTable k aT fun (r0 : (List (Int × Int)) × Int × List (List Int)) =>
    spec_IsMonotone k r0 fun (r1 : Bool) (r2 : Bool) =>
    laws_toCombatTable k aT fun (r3 : (List (Int × Int)) × Int × List (List Int)) =>
    impl_IsMonotone k r3 fun (r4 : Bool) (r5 : Bool) =>
    bif !(r4 == r1) then
      K false
    else
      bif !(r5 == r2) then
        K false
      else
        laws_toCombatTable k aT fun (r6 : (List (Int × Int)) × Int × List (List Int)) =>
        laws_eqCombatTable k r3 r6 fun (r7 : Bool) =>
        bif !r7 then
          K false
        else
          K true
/-- spec.kWays -/
def spec_kWays (dice : Int) (roll : Int) {R : Type} (K : Int → Option R) : Option R :=
  bif decide (dice = (1 : Int)) then
    K (1 : Int)
  else
    spec_l1Abs (IntKind.wrap .i64 (roll - (7 : Int))) fun (r : Int) =>
    K (IntKind.wrap .i64 ((6 : Int) - r))
/-- spec.kCounts -/
def spec_kCounts_l0 (k : Nat) {R : Type} (K0 : (List Int) → Option R) : Nat → Int → Int → ((List (Int × Int)) × Int × List (List Int)) → (List Int) → Option R
  | 0, _, _, _, _ => none
  | m + 1, column0, roll, t0, out =>
    bif decide (roll ≤ IntKind.wrap .i64 ((6 : Int) * t0.2.1)) then
      spec_kResult t0 roll column0 fun (r : Int) =>
      bif decide ((0 : Int) ≤ r) && decide (r < ((List.length out : Nat) : Int)) then
        spec_kWays t0.2.1 roll fun (r0 : Int) =>
        bif decide ((0 : Int) ≤ r) && decide (r < ((List.length out : Nat) : Int)) then
          spec_kCounts_l0 k K0 m column0 (IntKind.wrap .i64 (roll + (1 : Int))) t0 (List.set out (Int.toNat r) (IntKind.wrap .i64 ((List.getD out (Int.toNat r) (0 : Int)) + r0)))
        else
          none
      else
        none
    else
      K0 out
def spec_kCounts (k : Nat) (t : (List (Int × Int)) × Int × List (List Int)) (column : Int) {R : Type} (K : (List Int) → Option R) : Option R :=
  spec_kCounts_l0 k (fun (out0 : List Int) =>
    K out0) k column t.2.1 t (List.replicate 8 (0 : Int))
/-- spec.MeanScore -/
def spec_MeanScore_l0 (k : Nat) {R : Type} (K0 : Int → Int → Option R) : Nat → Int → Int → (List Int) → Int → Int → Option R
  | 0, _, _, _, _, _ => none
  | m + 1, sum_, n_0, x, x0, x1 =>
    bif decide (x1 < x0) then
      bif decide ((0 : Int) ≤ x1) && decide (x1 < ((List.length x : Nat) : Int)) then
        spec_kScore x1 fun (r1 : Int) =>
        spec_MeanScore_l0 k K0 m (IntKind.wrap .i64 (sum_ + (IntKind.wrap .i64 ((List.getD x (Int.toNat x1) (0 : Int)) * r1)))) (IntKind.wrap .i64 (n_0 + (List.getD x (Int.toNat x1) (0 : Int)))) x x0 (IntKind.wrap .i64 (x1 + (1 : Int)))
      else
        none
    else
      K0 sum_ n_0
def spec_MeanScore (k : Nat) (t : (List (Int × Int)) × Int × List (List Int)) (column : Int) {R : Type} (K : Int → Int → Bool → Option R) : Option R :=
  spec_kAsked k t column fun (r : Bool) =>
  bif !r then
    K (0 : Int) (0 : Int) false
  else
    spec_kCounts k t column fun (r0 : List Int) =>
    spec_MeanScore_l0 k (fun (sum_0 : Int) (n_1 : Int) =>
      K sum_0 n_1 true) k (0 : Int) (0 : Int) r0 ((List.length r0 : Nat) : Int) (0 : Int)
/-- impl.waysFor -/
def impl_waysFor (t : (List (Int × Int)) × Int × List (List Int)) (row : Int) {R : Type} (K : Int → Option R) : Option R :=
  bif decide (t.2.1 = (1 : Int)) then
    K (1 : Int)
  else
    impl_absOf (IntKind.wrap .i64 (row - (5 : Int))) fun (r : Int) =>
    K (IntKind.wrap .i64 ((6 : Int) - r))
/-- impl.MeanScore -/
def impl_MeanScore_l0 (k : Nat) {R : Type} (K0 : Int → Int → Option R) : Nat → Int → Int → Int → (List (List Int)) → Int → Int → ((List (Int × Int)) × Int × List (List Int)) → Option R
  | 0, _, _, _, _, _, _, _ => none
  | m + 1, column0, sum_, many, x, x0, x1, t0 =>
    bif decide (x1 < x0) then
      bif decide ((0 : Int) ≤ x1) && decide (x1 < ((List.length x : Nat) : Int)) then
        bif decide ((0 : Int) ≤ column0) && decide (column0 < ((List.length (List.getD x (Int.toNat x1) []) : Nat) : Int)) then
          impl_scoreOf (List.getD (List.getD x (Int.toNat x1) []) (Int.toNat column0) (0 : Int)) fun (r0 : Int) =>
          impl_waysFor t0 x1 fun (r1 : Int) =>
          impl_waysFor t0 x1 fun (r2 : Int) =>
          impl_MeanScore_l0 k K0 m column0 (IntKind.wrap .i64 (sum_ + (IntKind.wrap .i64 (r0 * r1)))) (IntKind.wrap .i64 (many + r2)) x x0 (IntKind.wrap .i64 (x1 + (1 : Int))) t0
        else
          none
      else
        none
    else
      K0 sum_ many
def impl_MeanScore (k : Nat) (t : (List (Int × Int)) × Int × List (List Int)) (column : Int) {R : Type} (K : Int → Int → Bool → Option R) : Option R :=
  impl_isColumn k t column fun (r : Bool) =>
  bif !r then
    K (0 : Int) (0 : Int) false
  else
    impl_MeanScore_l0 k (fun (sum_0 : Int) (many0 : Int) =>
      K sum_0 many0 true) k column (0 : Int) (0 : Int) t.2.2 ((List.length t.2.2 : Nat) : Int) (0 : Int) t
/-- laws.FnExactMeanScore -/
def laws_FnExactMeanScore (k : Nat) (aT : (List (Int × Int)) × Int × List (List Int)) (aColumn : Int) {R : Type} (K : Bool → Option R) : Option R :=
  laws_szCombatTable k aT (1048576 : Int) fun (r : Int) =>
  bif decide (r < (0 : Int)) then
    K true
  else
    laws_toCombatTable k aT fun (r0 : (List (Int × Int)) × Int × List (List Int)) =>
    spec_MeanScore k r0 aColumn fun (r1 : Int) (r2 : Int) (r3 : Bool) =>
    laws_toCombatTable k aT fun (r4 : (List (Int × Int)) × Int × List (List Int)) =>
    impl_MeanScore k r4 aColumn fun (r5 : Int) (r6 : Int) (r7 : Bool) =>
    bif !(decide (r5 = r1)) then
      K false
    else
      bif !(decide (r6 = r2)) then
        K false
      else
        bif !(r7 == r3) then
          K false
        else
          laws_toCombatTable k aT fun (r8 : (List (Int × Int)) × Int × List (List Int)) =>
          laws_eqCombatTable k r4 r8 fun (r9 : Bool) =>
          bif !r9 then
            K false
          else
            K true
/-- laws.szTerrain -/
def laws_szTerrain (a : ByteArray × (List Int) × Int × Int × Bool) (left : Int) {R : Type} (K : Int → Option R) : Option R :=
  bif decide (IntKind.wrap .i64 (left - ((ByteArray.size a.1 : Nat) : Int)) < (0 : Int)) then
    K (-1 : Int)
  else
    laws_szIntS a.2.1 (IntKind.wrap .i64 (left - ((ByteArray.size a.1 : Nat) : Int))) fun (r : Int) =>
    bif decide (r < (0 : Int)) then
      K (-1 : Int)
    else
      K r
/-- laws.szTerrainS -/
def laws_szTerrainS_l0 (k : Nat) {R : Type} (K0 : Int → Option R) (K1 : Int → Option R) : Nat → (List (ByteArray × (List Int) × Int × Int × Bool)) → Int → Int → Option R
  | 0, _, _, _ => none
  | m + 1, a0, left0, i =>
    bif decide (i < ((List.length a0 : Nat) : Int)) then
      bif decide ((0 : Int) ≤ i) && decide (i < ((List.length a0 : Nat) : Int)) then
        laws_szTerrain (List.getD a0 (Int.toNat i) ((⟨#[]⟩ : ByteArray), ([], ((0 : Int), ((0 : Int), false))))) left0 fun (r : Int) =>
        bif decide (r < (0 : Int)) then
          K1 (-1 : Int)
        else
          laws_szTerrainS_l0 k K0 K1 m a0 r (IntKind.wrap .i64 (i + (1 : Int)))
      else
        none
    else
      K0 left0
def laws_szTerrainS (k : Nat) (a : List (ByteArray × (List Int) × Int × Int × Bool)) (left : Int) {R : Type} (K : Int → Option R) : Option R :=
  bif decide (IntKind.wrap .i64 (left - ((List.length a : Nat) : Int)) < (0 : Int)) then
    K (-1 : Int)
  else
    laws_szTerrainS_l0 k (fun (left1 : Int) =>
      K left1) (fun (x : Int) =>
      K x) k a (IntKind.wrap .i64 (left - ((List.length a : Nat) : Int))) (0 : Int)
/-- laws.szKind -/
def laws_szKind (a : ByteArray × Int × Int × Int × Bool × Int) (left : Int) {R : Type} (K : Int → Option R) : Option R :=
  bif decide (IntKind.wrap .i64 (left - ((ByteArray.size a.1 : Nat) : Int)) < (0 : Int)) then
    K (-1 : Int)
  else
    K (IntKind.wrap .i64 (left - ((ByteArray.size a.1 : Nat) : Int)))
/-- laws.szKindS -/
def laws_szKindS_l0 (k : Nat) {R : Type} (K0 : Int → Option R) (K1 : Int → Option R) : Nat → (List (ByteArray × Int × Int × Int × Bool × Int)) → Int → Int → Option R
  | 0, _, _, _ => none
  | m + 1, a0, left0, i =>
    bif decide (i < ((List.length a0 : Nat) : Int)) then
      bif decide ((0 : Int) ≤ i) && decide (i < ((List.length a0 : Nat) : Int)) then
        laws_szKind (List.getD a0 (Int.toNat i) ((⟨#[]⟩ : ByteArray), ((0 : Int), ((0 : Int), ((0 : Int), (false, (0 : Int))))))) left0 fun (r : Int) =>
        bif decide (r < (0 : Int)) then
          K1 (-1 : Int)
        else
          laws_szKindS_l0 k K0 K1 m a0 r (IntKind.wrap .i64 (i + (1 : Int)))
      else
        none
    else
      K0 left0
def laws_szKindS (k : Nat) (a : List (ByteArray × Int × Int × Int × Bool × Int)) (left : Int) {R : Type} (K : Int → Option R) : Option R :=
  bif decide (IntKind.wrap .i64 (left - ((List.length a : Nat) : Int)) < (0 : Int)) then
    K (-1 : Int)
  else
    laws_szKindS_l0 k (fun (left1 : Int) =>
      K left1) (fun (x : Int) =>
      K x) k a (IntKind.wrap .i64 (left - ((List.length a : Nat) : Int))) (0 : Int)
/-- laws.szRules -/
def laws_szRules (k : Nat) (a : (List (ByteArray × (List Int) × Int × Int × Bool)) × (List (ByteArray × Int × Int × Int × Bool × Int)) × Int × Int × Int × Int × Int) (left : Int) {R : Type} (K : Int → Option R) : Option R :=
  laws_szTerrainS k a.1 left fun (r : Int) =>
  bif decide (r < (0 : Int)) then
    K (-1 : Int)
  else
    laws_szKindS k a.2.1 r fun (r0 : Int) =>
    bif decide (r0 < (0 : Int)) then
      K (-1 : Int)
    else
      K r0
/-- laws.toTerrain -/
def laws_toTerrain (k : Nat) (a : ByteArray × (List Int) × Int × Int × Bool) {R : Type} (K : (ByteArray × (List Int) × Int × Int × Bool) → Option R) : Option R :=
  laws_toIntS k a.2.1 fun (r : List Int) =>
  K (a.1, (r, (a.2.2.1, (a.2.2.2.1, a.2.2.2.2))))
/-- laws.toTerrainS -/
def laws_toTerrainS_l0 (k : Nat) {R : Type} (K0 : (List (ByteArray × (List Int) × Int × Int × Bool)) → Option R) : Nat → (List (ByteArray × (List Int) × Int × Int × Bool)) → Int → (List (ByteArray × (List Int) × Int × Int × Bool)) → Option R
  | 0, _, _, _ => none
  | m + 1, a0, i, out =>
    bif decide (i < ((List.length a0 : Nat) : Int)) then
      bif decide ((0 : Int) ≤ i) && decide (i < ((List.length a0 : Nat) : Int)) then
        laws_toTerrain k (List.getD a0 (Int.toNat i) ((⟨#[]⟩ : ByteArray), ([], ((0 : Int), ((0 : Int), false))))) fun (r : ByteArray × (List Int) × Int × Int × Bool) =>
        bif decide ((0 : Int) ≤ i) && decide (i < ((List.length out : Nat) : Int)) then
          laws_toTerrainS_l0 k K0 m a0 (IntKind.wrap .i64 (i + (1 : Int))) (List.set out (Int.toNat i) r)
        else
          none
      else
        none
    else
      K0 out
def laws_toTerrainS (k : Nat) (a : List (ByteArray × (List Int) × Int × Int × Bool)) {R : Type} (K : (List (ByteArray × (List Int) × Int × Int × Bool)) → Option R) : Option R :=
  bif decide ((0 : Int) ≤ ((List.length a : Nat) : Int)) && decide (((List.length a : Nat) : Int) ≤ (137438953472 : Int)) && decide (((List.length a : Nat) : Int) = ((List.length a : Nat) : Int)) then
    laws_toTerrainS_l0 k (fun (out0 : List (ByteArray × (List Int) × Int × Int × Bool)) =>
      K out0) k a (0 : Int) (List.replicate (Int.toNat ((List.length a : Nat) : Int)) ((⟨#[]⟩ : ByteArray), ([], ((0 : Int), ((0 : Int), false)))))
  else
    none
/-- laws.toKind -/
def laws_toKind (a : ByteArray × Int × Int × Int × Bool × Int) {R : Type} (K : (ByteArray × Int × Int × Int × Bool × Int) → Option R) : Option R :=
  K (a.1, (a.2.1, (a.2.2.1, (a.2.2.2.1, (a.2.2.2.2.1, a.2.2.2.2.2)))))
/-- laws.toKindS -/
def laws_toKindS_l0 (k : Nat) {R : Type} (K0 : (List (ByteArray × Int × Int × Int × Bool × Int)) → Option R) : Nat → (List (ByteArray × Int × Int × Int × Bool × Int)) → Int → (List (ByteArray × Int × Int × Int × Bool × Int)) → Option R
  | 0, _, _, _ => none
  | m + 1, a0, i, out =>
    bif decide (i < ((List.length a0 : Nat) : Int)) then
      bif decide ((0 : Int) ≤ i) && decide (i < ((List.length a0 : Nat) : Int)) then
        laws_toKind (List.getD a0 (Int.toNat i) ((⟨#[]⟩ : ByteArray), ((0 : Int), ((0 : Int), ((0 : Int), (false, (0 : Int))))))) fun (r : ByteArray × Int × Int × Int × Bool × Int) =>
        bif decide ((0 : Int) ≤ i) && decide (i < ((List.length out : Nat) : Int)) then
          laws_toKindS_l0 k K0 m a0 (IntKind.wrap .i64 (i + (1 : Int))) (List.set out (Int.toNat i) r)
        else
          none
      else
        none
    else
      K0 out
def laws_toKindS (k : Nat) (a : List (ByteArray × Int × Int × Int × Bool × Int)) {R : Type} (K : (List (ByteArray × Int × Int × Int × Bool × Int)) → Option R) : Option R :=
  bif decide ((0 : Int) ≤ ((List.length a : Nat) : Int)) && decide (((List.length a : Nat) : Int) ≤ (137438953472 : Int)) && decide (((List.length a : Nat) : Int) = ((List.length a : Nat) : Int)) then
    laws_toKindS_l0 k (fun (out0 : List (ByteArray × Int × Int × Int × Bool × Int)) =>
      K out0) k a (0 : Int) (List.replicate (Int.toNat ((List.length a : Nat) : Int)) ((⟨#[]⟩ : ByteArray), ((0 : Int), ((0 : Int), ((0 : Int), (false, (0 : Int)))))))
  else
    none
/-- laws.toRules -/
def laws_toRules (k : Nat) (a : (List (ByteArray × (List Int) × Int × Int × Bool)) × (List (ByteArray × Int × Int × Int × Bool × Int)) × Int × Int × Int × Int × Int) {R : Type} (K : ((List (ByteArray × (List Int) × Int × Int × Bool)) × (List (ByteArray × Int × Int × Int × Bool × Int)) × Int × Int × Int × Int × Int) → Option R) : Option R :=
  laws_toTerrainS k a.1 fun (r : List (ByteArray × (List Int) × Int × Int × Bool)) =>
  laws_toKindS k a.2.1 fun (r0 : List (ByteArray × Int × Int × Int × Bool × Int)) =>
  K (r, (r0, (a.2.2.1, (a.2.2.2.1, (a.2.2.2.2.1, (a.2.2.2.2.2.1, a.2.2.2.2.2.2))))))
/-- spec.rName -/
def spec_rName_l0 (k : Nat) {R : Type} (K0 : ByteArray → Option R) (K1 : Bool → Option R) : Nat → ByteArray → Int → Option R
  | 0, _, _ => none
  | m + 1, s0, i =>
    bif decide (i < ((ByteArray.size s0 : Nat) : Int)) then
      bif decide ((0 : Int) ≤ i) && decide (i < ((ByteArray.size s0 : Nat) : Int)) then
        bif decide (byteAt s0 i < (97 : Int)) then
          K1 false
        else
          bif decide ((0 : Int) ≤ i) && decide (i < ((ByteArray.size s0 : Nat) : Int)) then
            bif decide ((122 : Int) < byteAt s0 i) then
              K1 false
            else
              spec_rName_l0 k K0 K1 m s0 (IntKind.wrap .i64 (i + (1 : Int)))
          else
            none
      else
        none
    else
      K0 s0
def spec_rName (k : Nat) (s : ByteArray) {R : Type} (K : Bool → Option R) : Option R :=
  spec_rName_l0 k (fun (s1 : ByteArray) =>
    spec_l1In ((ByteArray.size s1 : Nat) : Int) (1 : Int) (8 : Int) fun (r : Bool) =>
    K r) (fun (x : Bool) =>
    K x) k s (0 : Int)
/-- spec.rTerrain -/
def spec_rTerrain_l0 (k : Nat) {R : Type} (K0 : Option R) (K1 : Int → Option R) : Nat → ByteArray → (List (ByteArray × (List Int) × Int × Int × Bool)) → Int → Int → Option R
  | 0, _, _, _, _ => none
  | m + 1, name0, x, x0, x1 =>
    bif decide (x1 < x0) then
      bif decide ((0 : Int) ≤ x1) && decide (x1 < ((List.length x : Nat) : Int)) then
        bif ByteArray.toList (List.getD x (Int.toNat x1) ((⟨#[]⟩ : ByteArray), ([], ((0 : Int), ((0 : Int), false))))).1 == ByteArray.toList name0 then
          K1 x1
        else
          spec_rTerrain_l0 k K0 K1 m name0 x x0 (IntKind.wrap .i64 (x1 + (1 : Int)))
      else
        none
    else
      K0
def spec_rTerrain (k : Nat) (l : List (ByteArray × (List Int) × Int × Int × Bool)) (name : ByteArray) {R : Type} (K : Int → Option R) : Option R :=
  spec_rTerrain_l0 k (
    K (-1 : Int)) (fun (x2 : Int) =>
    K x2) k name l ((List.length l : Nat) : Int) (0 : Int)
/-- spec.rKind -/
def spec_rKind_l0 (k : Nat) {R : Type} (K0 : Option R) (K1 : Int → Option R) : Nat → ByteArray → (List (ByteArray × Int × Int × Int × Bool × Int)) → Int → Int → Option R
  | 0, _, _, _, _ => none
  | m + 1, name0, x, x0, x1 =>
    bif decide (x1 < x0) then
      bif decide ((0 : Int) ≤ x1) && decide (x1 < ((List.length x : Nat) : Int)) then
        bif ByteArray.toList (List.getD x (Int.toNat x1) ((⟨#[]⟩ : ByteArray), ((0 : Int), ((0 : Int), ((0 : Int), (false, (0 : Int))))))).1 == ByteArray.toList name0 then
          K1 x1
        else
          spec_rKind_l0 k K0 K1 m name0 x x0 (IntKind.wrap .i64 (x1 + (1 : Int)))
      else
        none
    else
      K0
def spec_rKind (k : Nat) (l : List (ByteArray × Int × Int × Int × Bool × Int)) (name : ByteArray) {R : Type} (K : Int → Option R) : Option R :=
  spec_rKind_l0 k (
    K (-1 : Int)) (fun (x2 : Int) =>
    K x2) k name l ((List.length l : Nat) : Int) (0 : Int)
/-- spec.rGood -/
def spec_rGood_l0 (k : Nat) {R : Type} (K0 : ((List (ByteArray × (List Int) × Int × Int × Bool)) × (List (ByteArray × Int × Int × Int × Bool × Int)) × Int × Int × Int × Int × Int) → Option R) (K1 : Bool → Option R) : Nat → (List (ByteArray × (List Int) × Int × Int × Bool)) → Int → Int → ((List (ByteArray × (List Int) × Int × Int × Bool)) × (List (ByteArray × Int × Int × Int × Bool × Int)) × Int × Int × Int × Int × Int) → Option R
  | 0, _, _, _, _ => none
  | m + 1, x0, x1, x2, x3 =>
    bif decide (x2 < x1) then
      bif decide ((0 : Int) ≤ x2) && decide (x2 < ((List.length x0 : Nat) : Int)) then
        spec_rName k (List.getD x0 (Int.toNat x2) ((⟨#[]⟩ : ByteArray), ([], ((0 : Int), ((0 : Int), false))))).1 fun (r1 : Bool) =>
        bif !r1 then
          K1 false
        else
          spec_rTerrain k x3.1 (List.getD x0 (Int.toNat x2) ((⟨#[]⟩ : ByteArray), ([], ((0 : Int), ((0 : Int), false))))).1 fun (r2 : Int) =>
          bif !(decide (r2 = x2)) then
            K1 false
          else
            bif !(decide (((List.length (List.getD x0 (Int.toNat x2) ((⟨#[]⟩ : ByteArray), ([], ((0 : Int), ((0 : Int), false))))).2.1 : Nat) : Int) = ((List.length x3.2.1 : Nat) : Int))) then
              K1 false
            else
              spec_l1All k (List.getD x0 (Int.toNat x2) ((⟨#[]⟩ : ByteArray), ([], ((0 : Int), ((0 : Int), false))))).2.1 (0 : Int) (9 : Int) fun (r3 : Bool) =>
              bif !r3 then
                K1 false
              else
                spec_l1In (List.getD x0 (Int.toNat x2) ((⟨#[]⟩ : ByteArray), ([], ((0 : Int), ((0 : Int), false))))).2.2.1 (-3 : Int) (3 : Int) fun (r4 : Bool) =>
                bif !r4 then
                  K1 false
                else
                  spec_l1In (List.getD x0 (Int.toNat x2) ((⟨#[]⟩ : ByteArray), ([], ((0 : Int), ((0 : Int), false))))).2.2.2.1 (0 : Int) (3 : Int) fun (r5 : Bool) =>
                  bif !r5 then
                    K1 false
                  else
                    spec_rGood_l0 k K0 K1 m x0 x1 (IntKind.wrap .i64 (x2 + (1 : Int))) x3
      else
        none
    else
      K0 x3
def spec_rGood_l1 (k : Nat) {R : Type} (K0 : ((List (ByteArray × (List Int) × Int × Int × Bool)) × (List (ByteArray × Int × Int × Int × Bool × Int)) × Int × Int × Int × Int × Int) → Option R) (K1 : Bool → Option R) : Nat → (List (ByteArray × Int × Int × Int × Bool × Int)) → Int → Int → ((List (ByteArray × (List Int) × Int × Int × Bool)) × (List (ByteArray × Int × Int × Int × Bool × Int)) × Int × Int × Int × Int × Int) → Option R
  | 0, _, _, _, _ => none
  | m + 1, x5, x6, x7, x8 =>
    bif decide (x7 < x6) then
      bif decide ((0 : Int) ≤ x7) && decide (x7 < ((List.length x5 : Nat) : Int)) then
        spec_rName k (List.getD x5 (Int.toNat x7) ((⟨#[]⟩ : ByteArray), ((0 : Int), ((0 : Int), ((0 : Int), (false, (0 : Int))))))).1 fun (r6 : Bool) =>
        bif !r6 then
          K1 false
        else
          spec_rKind k x8.2.1 (List.getD x5 (Int.toNat x7) ((⟨#[]⟩ : ByteArray), ((0 : Int), ((0 : Int), ((0 : Int), (false, (0 : Int))))))).1 fun (r7 : Int) =>
          bif !(decide (r7 = x7)) then
            K1 false
          else
            spec_l1In (List.getD x5 (Int.toNat x7) ((⟨#[]⟩ : ByteArray), ((0 : Int), ((0 : Int), ((0 : Int), (false, (0 : Int))))))).2.1 (1 : Int) (9 : Int) fun (r8 : Bool) =>
            bif !r8 then
              K1 false
            else
              spec_l1In (List.getD x5 (Int.toNat x7) ((⟨#[]⟩ : ByteArray), ((0 : Int), ((0 : Int), ((0 : Int), (false, (0 : Int))))))).2.2.1 (0 : Int) (9 : Int) fun (r9 : Bool) =>
              bif !r9 then
                K1 false
              else
                spec_l1In (List.getD x5 (Int.toNat x7) ((⟨#[]⟩ : ByteArray), ((0 : Int), ((0 : Int), ((0 : Int), (false, (0 : Int))))))).2.2.2.1 (1 : Int) (4 : Int) fun (r10 : Bool) =>
                bif !r10 then
                  K1 false
                else
                  spec_l1In (List.getD x5 (Int.toNat x7) ((⟨#[]⟩ : ByteArray), ((0 : Int), ((0 : Int), ((0 : Int), (false, (0 : Int))))))).2.2.2.2.2 (0 : Int) (4 : Int) fun (r11 : Bool) =>
                  bif !r11 then
                    K1 false
                  else
                    spec_rGood_l1 k K0 K1 m x5 x6 (IntKind.wrap .i64 (x7 + (1 : Int))) x8
      else
        none
    else
      K0 x8
def spec_rGood (k : Nat) (x : (List (ByteArray × (List Int) × Int × Int × Bool)) × (List (ByteArray × Int × Int × Int × Bool × Int)) × Int × Int × Int × Int × Int) {R : Type} (K : Bool → Option R) : Option R :=
  spec_l1In ((List.length x.1 : Nat) : Int) (1 : Int) (6 : Int) fun (r : Bool) =>
  bif !r then
    K false
  else
    spec_l1In ((List.length x.2.1 : Nat) : Int) (1 : Int) (4 : Int) fun (r0 : Bool) =>
    bif !r0 then
      K false
    else
      spec_rGood_l0 k (fun (x4 : (List (ByteArray × (List Int) × Int × Int × Bool)) × (List (ByteArray × Int × Int × Int × Bool × Int)) × Int × Int × Int × Int × Int) =>
        spec_rGood_l1 k (fun (x9 : (List (ByteArray × (List Int) × Int × Int × Bool)) × (List (ByteArray × Int × Int × Int × Bool × Int)) × Int × Int × Int × Int × Int) =>
          spec_l1In x9.2.2.1 (1 : Int) (4 : Int) fun (r12 : Bool) =>
          bif r12 then
            spec_l1In x9.2.2.2.1 (0 : Int) (9 : Int) fun (r13 : Bool) =>
            bif r13 then
              spec_l1In x9.2.2.2.2.1 (1 : Int) (9 : Int) fun (r14 : Bool) =>
              bif r14 then
                spec_l1In x9.2.2.2.2.2.1 (0 : Int) (20 : Int) fun (r15 : Bool) =>
                bif r15 then
                  spec_l1In x9.2.2.2.2.2.2 (1 : Int) (30 : Int) fun (r16 : Bool) =>
                  K r16
                else
                  K false
              else
                K false
            else
              K false
          else
            K false) (fun (x10 : Bool) =>
          K x10) k x4.2.1 ((List.length x4.2.1 : Nat) : Int) (0 : Int) x4) (fun (x11 : Bool) =>
        K x11) k x.1 ((List.length x.1 : Nat) : Int) (0 : Int) x
/-- spec.IsRules -/
def spec_IsRules (k : Nat) (r : (List (ByteArray × (List Int) × Int × Int × Bool)) × (List (ByteArray × Int × Int × Int × Bool × Int)) × Int × Int × Int × Int × Int) {R : Type} (K : Bool → Option R) : Option R :=
  spec_rGood k r fun (r0 : Bool) =>
  K r0
/-- impl.isName -/
def impl_isName_l0 (k : Nat) {R : Type} (K0 : ByteArray → Option R) (K1 : Bool → Option R) : Nat → ByteArray → Int → Option R
  | 0, _, _ => none
  | m + 1, s0, i =>
    bif decide (i < ((ByteArray.size s0 : Nat) : Int)) then
      bif decide ((0 : Int) ≤ i) && decide (i < ((ByteArray.size s0 : Nat) : Int)) then
        bif decide (byteAt s0 i < (97 : Int)) then
          K1 false
        else
          bif decide ((0 : Int) ≤ i) && decide (i < ((ByteArray.size s0 : Nat) : Int)) then
            bif decide ((122 : Int) < byteAt s0 i) then
              K1 false
            else
              impl_isName_l0 k K0 K1 m s0 (IntKind.wrap .i64 (i + (1 : Int)))
          else
            none
      else
        none
    else
      K0 s0
def impl_isName (k : Nat) (s : ByteArray) {R : Type} (K : Bool → Option R) : Option R :=
  impl_isName_l0 k (fun (s1 : ByteArray) =>
    impl_inRange ((ByteArray.size s1 : Nat) : Int) (1 : Int) (8 : Int) fun (r : Bool) =>
    K r) (fun (x : Bool) =>
    K x) k s (0 : Int)
/-- impl.goodTerrain$1 -/
def impl_goodTerrain_1 (c : Int) {R : Type} (K : Bool → Option R) : Option R :=
  impl_inRange c (0 : Int) (9 : Int) fun (r : Bool) =>
  K (!r)
/-- slices.IndexFunc[[]int,int] -/
def slices_IndexFunc_Sint_int__impl_goodTerrain_1_l0 (k : Nat) {R : Type} (K0 : Option R) (K1 : Int → Option R) : Nat → (List Int) → Int → Int → Option R
  | 0, _, _, _ => none
  | m + 1, s0, x, x0 =>
    bif decide (x0 < x) then
      bif decide ((0 : Int) ≤ x0) && decide (x0 < ((List.length s0 : Nat) : Int)) then
        impl_goodTerrain_1 (List.getD s0 (Int.toNat x0) (0 : Int)) fun (r : Bool) =>
        bif r then
          K1 x0
        else
          slices_IndexFunc_Sint_int__impl_goodTerrain_1_l0 k K0 K1 m s0 x (IntKind.wrap .i64 (x0 + (1 : Int)))
      else
        none
    else
      K0
def slices_IndexFunc_Sint_int__impl_goodTerrain_1 (k : Nat) (s : List Int) {R : Type} (K : Int → Option R) : Option R :=
  slices_IndexFunc_Sint_int__impl_goodTerrain_1_l0 k (
    K (-1 : Int)) (fun (x1 : Int) =>
    K x1) k s ((List.length s : Nat) : Int) (0 : Int)
/-- slices.ContainsFunc[[]int,int] -/
def slices_ContainsFunc_Sint_int__impl_goodTerrain_1 (k : Nat) (s : List Int) {R : Type} (K : Bool → Option R) : Option R :=
  slices_IndexFunc_Sint_int__impl_goodTerrain_1 k s fun (r : Int) =>
  K (decide ((0 : Int) ≤ r))
/-- impl.goodTerrain -/
def impl_goodTerrain (k : Nat) (t : ByteArray × (List Int) × Int × Int × Bool) (kinds : Int) {R : Type} (K : Bool → Option R) : Option R :=
  impl_isName k t.1 fun (r : Bool) =>
  bif !r then
    K false
  else
    bif !(decide (((List.length t.2.1 : Nat) : Int) = kinds)) then
      K false
    else
      impl_inRange t.2.2.1 (-3 : Int) (3 : Int) fun (r0 : Bool) =>
      bif !r0 then
        K false
      else
        impl_inRange t.2.2.2.1 (0 : Int) (3 : Int) fun (r1 : Bool) =>
        bif !r1 then
          K false
        else
          slices_ContainsFunc_Sint_int__impl_goodTerrain_1 k t.2.1 fun (r2 : Bool) =>
          K (!r2)
/-- impl.terrainIndex$1 -/
def impl_terrainIndex_1 (t : ByteArray × (List Int) × Int × Int × Bool) (x : ByteArray) {R : Type} (K : Bool → Option R) : Option R :=
  K (ByteArray.toList t.1 == ByteArray.toList x)
/-- slices.IndexFunc[[]impl.Terrain,impl.Terrain] -/
def slices_IndexFunc_Simpl_Terrain_impl_Terrain__impl_terrainIndex_1_l0 (k : Nat) {R : Type} (K0 : Option R) (K1 : Int → Option R) : Nat → (List (ByteArray × (List Int) × Int × Int × Bool)) → ByteArray → Int → Int → Option R
  | 0, _, _, _, _ => none
  | m + 1, s0, f, x, x0 =>
    bif decide (x0 < x) then
      bif decide ((0 : Int) ≤ x0) && decide (x0 < ((List.length s0 : Nat) : Int)) then
        impl_terrainIndex_1 (List.getD s0 (Int.toNat x0) ((⟨#[]⟩ : ByteArray), ([], ((0 : Int), ((0 : Int), false))))) f fun (r : Bool) =>
        bif r then
          K1 x0
        else
          slices_IndexFunc_Simpl_Terrain_impl_Terrain__impl_terrainIndex_1_l0 k K0 K1 m s0 f x (IntKind.wrap .i64 (x0 + (1 : Int)))
      else
        none
    else
      K0
def slices_IndexFunc_Simpl_Terrain_impl_Terrain__impl_terrainIndex_1 (k : Nat) (s : List (ByteArray × (List Int) × Int × Int × Bool)) (c : ByteArray) {R : Type} (K : Int → Option R) : Option R :=
  slices_IndexFunc_Simpl_Terrain_impl_Terrain__impl_terrainIndex_1_l0 k (
    K (-1 : Int)) (fun (x1 : Int) =>
    K x1) k s c ((List.length s : Nat) : Int) (0 : Int)
/-- impl.terrainIndex -/
def impl_terrainIndex (k : Nat) (list : List (ByteArray × (List Int) × Int × Int × Bool)) (name : ByteArray) {R : Type} (K : Int → Option R) : Option R :=
  slices_IndexFunc_Simpl_Terrain_impl_Terrain__impl_terrainIndex_1 k list name fun (r : Int) =>
  K r
/-- impl.goodKind -/
def impl_goodKind (k : Nat) (k_ : ByteArray × Int × Int × Int × Bool × Int) {R : Type} (K : Bool → Option R) : Option R :=
  impl_isName k k_.1 fun (r : Bool) =>
  bif r then
    impl_inRange k_.2.1 (1 : Int) (9 : Int) fun (r0 : Bool) =>
    bif r0 then
      impl_inRange k_.2.2.1 (0 : Int) (9 : Int) fun (r1 : Bool) =>
      bif r1 then
        impl_inRange k_.2.2.2.1 (1 : Int) (4 : Int) fun (r2 : Bool) =>
        bif r2 then
          impl_inRange k_.2.2.2.2.2 (0 : Int) (4 : Int) fun (r3 : Bool) =>
          K r3
        else
          K false
      else
        K false
    else
      K false
  else
    K false
/-- impl.kindIndex$1 -/
def impl_kindIndex_1 (k_ : ByteArray × Int × Int × Int × Bool × Int) (x : ByteArray) {R : Type} (K : Bool → Option R) : Option R :=
  K (ByteArray.toList k_.1 == ByteArray.toList x)
/-- slices.IndexFunc[[]impl.Kind,impl.Kind] -/
def slices_IndexFunc_Simpl_Kind_impl_Kind__impl_kindIndex_1_l0 (k : Nat) {R : Type} (K0 : Option R) (K1 : Int → Option R) : Nat → (List (ByteArray × Int × Int × Int × Bool × Int)) → ByteArray → Int → Int → Option R
  | 0, _, _, _, _ => none
  | m + 1, s0, f, x, x0 =>
    bif decide (x0 < x) then
      bif decide ((0 : Int) ≤ x0) && decide (x0 < ((List.length s0 : Nat) : Int)) then
        impl_kindIndex_1 (List.getD s0 (Int.toNat x0) ((⟨#[]⟩ : ByteArray), ((0 : Int), ((0 : Int), ((0 : Int), (false, (0 : Int))))))) f fun (r : Bool) =>
        bif r then
          K1 x0
        else
          slices_IndexFunc_Simpl_Kind_impl_Kind__impl_kindIndex_1_l0 k K0 K1 m s0 f x (IntKind.wrap .i64 (x0 + (1 : Int)))
      else
        none
    else
      K0
def slices_IndexFunc_Simpl_Kind_impl_Kind__impl_kindIndex_1 (k : Nat) (s : List (ByteArray × Int × Int × Int × Bool × Int)) (c : ByteArray) {R : Type} (K : Int → Option R) : Option R :=
  slices_IndexFunc_Simpl_Kind_impl_Kind__impl_kindIndex_1_l0 k (
    K (-1 : Int)) (fun (x1 : Int) =>
    K x1) k s c ((List.length s : Nat) : Int) (0 : Int)
/-- impl.kindIndex -/
def impl_kindIndex (k : Nat) (list : List (ByteArray × Int × Int × Int × Bool × Int)) (name : ByteArray) {R : Type} (K : Int → Option R) : Option R :=
  slices_IndexFunc_Simpl_Kind_impl_Kind__impl_kindIndex_1 k list name fun (r : Int) =>
  K r
/-- impl.IsRules -/
def impl_IsRules_l0 (k : Nat) {R : Type} (K0 : ((List (ByteArray × (List Int) × Int × Int × Bool)) × (List (ByteArray × Int × Int × Int × Bool × Int)) × Int × Int × Int × Int × Int) → Option R) (K1 : Bool → Option R) : Nat → (List (ByteArray × (List Int) × Int × Int × Bool)) → Int → Int → ((List (ByteArray × (List Int) × Int × Int × Bool)) × (List (ByteArray × Int × Int × Int × Bool × Int)) × Int × Int × Int × Int × Int) → Option R
  | 0, _, _, _, _ => none
  | m + 1, x0, x1, x2, x3 =>
    bif decide (x2 < x1) then
      bif decide ((0 : Int) ≤ x2) && decide (x2 < ((List.length x0 : Nat) : Int)) then
        impl_goodTerrain k (List.getD x0 (Int.toNat x2) ((⟨#[]⟩ : ByteArray), ([], ((0 : Int), ((0 : Int), false))))) ((List.length x3.2.1 : Nat) : Int) fun (r1 : Bool) =>
        bif !r1 then
          K1 false
        else
          impl_terrainIndex k x3.1 (List.getD x0 (Int.toNat x2) ((⟨#[]⟩ : ByteArray), ([], ((0 : Int), ((0 : Int), false))))).1 fun (r2 : Int) =>
          bif !(decide (r2 = x2)) then
            K1 false
          else
            impl_IsRules_l0 k K0 K1 m x0 x1 (IntKind.wrap .i64 (x2 + (1 : Int))) x3
      else
        none
    else
      K0 x3
def impl_IsRules_l1 (k : Nat) {R : Type} (K0 : ((List (ByteArray × (List Int) × Int × Int × Bool)) × (List (ByteArray × Int × Int × Int × Bool × Int)) × Int × Int × Int × Int × Int) → Option R) (K1 : Bool → Option R) : Nat → (List (ByteArray × Int × Int × Int × Bool × Int)) → Int → Int → ((List (ByteArray × (List Int) × Int × Int × Bool)) × (List (ByteArray × Int × Int × Int × Bool × Int)) × Int × Int × Int × Int × Int) → Option R
  | 0, _, _, _, _ => none
  | m + 1, x5, x6, x7, x8 =>
    bif decide (x7 < x6) then
      bif decide ((0 : Int) ≤ x7) && decide (x7 < ((List.length x5 : Nat) : Int)) then
        impl_goodKind k (List.getD x5 (Int.toNat x7) ((⟨#[]⟩ : ByteArray), ((0 : Int), ((0 : Int), ((0 : Int), (false, (0 : Int))))))) fun (r3 : Bool) =>
        bif !r3 then
          K1 false
        else
          impl_kindIndex k x8.2.1 (List.getD x5 (Int.toNat x7) ((⟨#[]⟩ : ByteArray), ((0 : Int), ((0 : Int), ((0 : Int), (false, (0 : Int))))))).1 fun (r4 : Int) =>
          bif !(decide (r4 = x7)) then
            K1 false
          else
            impl_IsRules_l1 k K0 K1 m x5 x6 (IntKind.wrap .i64 (x7 + (1 : Int))) x8
      else
        none
    else
      K0 x8
def impl_IsRules (k : Nat) (x : (List (ByteArray × (List Int) × Int × Int × Bool)) × (List (ByteArray × Int × Int × Int × Bool × Int)) × Int × Int × Int × Int × Int) {R : Type} (K : Bool → Option R) : Option R :=
  impl_inRange ((List.length x.1 : Nat) : Int) (1 : Int) (6 : Int) fun (r : Bool) =>
  bif !r then
    K false
  else
    impl_inRange ((List.length x.2.1 : Nat) : Int) (1 : Int) (4 : Int) fun (r0 : Bool) =>
    bif !r0 then
      K false
    else
      impl_IsRules_l0 k (fun (x4 : (List (ByteArray × (List Int) × Int × Int × Bool)) × (List (ByteArray × Int × Int × Int × Bool × Int)) × Int × Int × Int × Int × Int) =>
        impl_IsRules_l1 k (fun (x9 : (List (ByteArray × (List Int) × Int × Int × Bool)) × (List (ByteArray × Int × Int × Int × Bool × Int)) × Int × Int × Int × Int × Int) =>
          impl_inRange x9.2.2.1 (1 : Int) (4 : Int) fun (r5 : Bool) =>
          bif r5 then
            impl_inRange x9.2.2.2.1 (0 : Int) (9 : Int) fun (r6 : Bool) =>
            bif r6 then
              impl_inRange x9.2.2.2.2.1 (1 : Int) (9 : Int) fun (r7 : Bool) =>
              bif r7 then
                impl_inRange x9.2.2.2.2.2.1 (0 : Int) (20 : Int) fun (r8 : Bool) =>
                bif r8 then
                  impl_inRange x9.2.2.2.2.2.2 (1 : Int) (30 : Int) fun (r9 : Bool) =>
                  K r9
                else
                  K false
              else
                K false
            else
              K false
          else
            K false) (fun (x10 : Bool) =>
          K x10) k x4.2.1 ((List.length x4.2.1 : Nat) : Int) (0 : Int) x4) (fun (x11 : Bool) =>
        K x11) k x.1 ((List.length x.1 : Nat) : Int) (0 : Int) x
/-- laws.eqTerrain -/
def laws_eqTerrain (k : Nat) (a : ByteArray × (List Int) × Int × Int × Bool) (b : ByteArray × (List Int) × Int × Int × Bool) {R : Type} (K : Bool → Option R) : Option R :=
  bif !(ByteArray.toList a.1 == ByteArray.toList b.1) then
    K false
  else
    laws_eqIntS k a.2.1 b.2.1 fun (r : Bool) =>
    bif !r then
      K false
    else
      bif !(decide (a.2.2.1 = b.2.2.1)) then
        K false
      else
        bif !(decide (a.2.2.2.1 = b.2.2.2.1)) then
          K false
        else
          bif !(a.2.2.2.2 == b.2.2.2.2) then
            K false
          else
            K true
/-- laws.eqTerrainS -/
def laws_eqTerrainS_l0 (k : Nat) {R : Type} (K0 : Option R) (K1 : Bool → Option R) : Nat → (List (ByteArray × (List Int) × Int × Int × Bool)) → (List (ByteArray × (List Int) × Int × Int × Bool)) → Int → Option R
  | 0, _, _, _ => none
  | m + 1, a0, b0, i =>
    bif decide (i < ((List.length a0 : Nat) : Int)) then
      bif decide ((0 : Int) ≤ i) && decide (i < ((List.length a0 : Nat) : Int)) then
        bif decide ((0 : Int) ≤ i) && decide (i < ((List.length b0 : Nat) : Int)) then
          laws_eqTerrain k (List.getD a0 (Int.toNat i) ((⟨#[]⟩ : ByteArray), ([], ((0 : Int), ((0 : Int), false))))) (List.getD b0 (Int.toNat i) ((⟨#[]⟩ : ByteArray), ([], ((0 : Int), ((0 : Int), false))))) fun (r : Bool) =>
          bif !r then
            K1 false
          else
            laws_eqTerrainS_l0 k K0 K1 m a0 b0 (IntKind.wrap .i64 (i + (1 : Int)))
        else
          none
      else
        none
    else
      K0
def laws_eqTerrainS (k : Nat) (a : List (ByteArray × (List Int) × Int × Int × Bool)) (b : List (ByteArray × (List Int) × Int × Int × Bool)) {R : Type} (K : Bool → Option R) : Option R :=
  bif !(decide (((List.length a : Nat) : Int) = ((List.length b : Nat) : Int))) then
    K false
  else
    laws_eqTerrainS_l0 k (
      K true) (fun (x : Bool) =>
      K x) k a b (0 : Int)
/-- laws.eqKind -/
def laws_eqKind (a : ByteArray × Int × Int × Int × Bool × Int) (b : ByteArray × Int × Int × Int × Bool × Int) {R : Type} (K : Bool → Option R) : Option R :=
  bif !(ByteArray.toList a.1 == ByteArray.toList b.1) then
    K false
  else
    bif !(decide (a.2.1 = b.2.1)) then
      K false
    else
      bif !(decide (a.2.2.1 = b.2.2.1)) then
        K false
      else
        bif !(decide (a.2.2.2.1 = b.2.2.2.1)) then
          K false
        else
          bif !(a.2.2.2.2.1 == b.2.2.2.2.1) then
            K false
          else
            bif !(decide (a.2.2.2.2.2 = b.2.2.2.2.2)) then
              K false
            else
              K true
/-- laws.eqKindS -/
def laws_eqKindS_l0 (k : Nat) {R : Type} (K0 : Option R) (K1 : Bool → Option R) : Nat → (List (ByteArray × Int × Int × Int × Bool × Int)) → (List (ByteArray × Int × Int × Int × Bool × Int)) → Int → Option R
  | 0, _, _, _ => none
  | m + 1, a0, b0, i =>
    bif decide (i < ((List.length a0 : Nat) : Int)) then
      bif decide ((0 : Int) ≤ i) && decide (i < ((List.length a0 : Nat) : Int)) then
        bif decide ((0 : Int) ≤ i) && decide (i < ((List.length b0 : Nat) : Int)) then
          laws_eqKind (List.getD a0 (Int.toNat i) ((⟨#[]⟩ : ByteArray), ((0 : Int), ((0 : Int), ((0 : Int), (false, (0 : Int))))))) (List.getD b0 (Int.toNat i) ((⟨#[]⟩ : ByteArray), ((0 : Int), ((0 : Int), ((0 : Int), (false, (0 : Int))))))) fun (r : Bool) =>
          bif !r then
            K1 false
          else
            laws_eqKindS_l0 k K0 K1 m a0 b0 (IntKind.wrap .i64 (i + (1 : Int)))
        else
          none
      else
        none
    else
      K0
def laws_eqKindS (k : Nat) (a : List (ByteArray × Int × Int × Int × Bool × Int)) (b : List (ByteArray × Int × Int × Int × Bool × Int)) {R : Type} (K : Bool → Option R) : Option R :=
  bif !(decide (((List.length a : Nat) : Int) = ((List.length b : Nat) : Int))) then
    K false
  else
    laws_eqKindS_l0 k (
      K true) (fun (x : Bool) =>
      K x) k a b (0 : Int)
/-- laws.eqRules -/
def laws_eqRules (k : Nat) (a : (List (ByteArray × (List Int) × Int × Int × Bool)) × (List (ByteArray × Int × Int × Int × Bool × Int)) × Int × Int × Int × Int × Int) (b : (List (ByteArray × (List Int) × Int × Int × Bool)) × (List (ByteArray × Int × Int × Int × Bool × Int)) × Int × Int × Int × Int × Int) {R : Type} (K : Bool → Option R) : Option R :=
  laws_eqTerrainS k a.1 b.1 fun (r : Bool) =>
  bif !r then
    K false
  else
    laws_eqKindS k a.2.1 b.2.1 fun (r0 : Bool) =>
    bif !r0 then
      K false
    else
      bif !(decide (a.2.2.1 = b.2.2.1)) then
        K false
      else
        bif !(decide (a.2.2.2.1 = b.2.2.2.1)) then
          K false
        else
          bif !(decide (a.2.2.2.2.1 = b.2.2.2.2.1)) then
            K false
          else
            bif !(decide (a.2.2.2.2.2.1 = b.2.2.2.2.2.1)) then
              K false
            else
              bif !(decide (a.2.2.2.2.2.2 = b.2.2.2.2.2.2)) then
                K false
              else
                K true
/-- laws.FnExactIsRules -/
def laws_FnExactIsRules (k : Nat) (aR : (List (ByteArray × (List Int) × Int × Int × Bool)) × (List (ByteArray × Int × Int × Int × Bool × Int)) × Int × Int × Int × Int × Int) {R : Type} (K : Bool → Option R) : Option R :=
  laws_szRules k aR (1048576 : Int) fun (r : Int) =>
  bif decide (r < (0 : Int)) then
    K true
  else
    laws_toRules k aR fun (r0 : (List (ByteArray × (List Int) × Int × Int × Bool)) × (List (ByteArray × Int × Int × Int × Bool × Int)) × Int × Int × Int × Int × Int) =>
    spec_IsRules k r0 fun (r1 : Bool) =>
    laws_toRules k aR fun (r2 : (List (ByteArray × (List Int) × Int × Int × Bool)) × (List (ByteArray × Int × Int × Int × Bool × Int)) × Int × Int × Int × Int × Int) =>
    impl_IsRules k r2 fun (r3 : Bool) =>
    bif !(r3 == r1) then
      K false
    else
      laws_toRules k aR fun (r4 : (List (ByteArray × (List Int) × Int × Int × Bool)) × (List (ByteArray × Int × Int × Int × Bool × Int)) × Int × Int × Int × Int × Int) =>
      laws_eqRules k r2 r4 fun (r5 : Bool) =>
      bif !r5 then
        K false
      else
        K true
/-- spec.KindNamed -/
def spec_KindNamed (k : Nat) (r : (List (ByteArray × (List Int) × Int × Int × Bool)) × (List (ByteArray × Int × Int × Int × Bool × Int)) × Int × Int × Int × Int × Int) (name : ByteArray) {R : Type} (K : Int → Bool → Option R) : Option R :=
  spec_rGood k r fun (r0 : Bool) =>
  bif !r0 then
    K (0 : Int) false
  else
    spec_rKind k r.2.1 name fun (r1 : Int) =>
    bif decide (r1 < (0 : Int)) then
      K (0 : Int) false
    else
      spec_rKind k r.2.1 name fun (r2 : Int) =>
      K r2 true
/-- impl.KindNamed -/
def impl_KindNamed (k : Nat) (r : (List (ByteArray × (List Int) × Int × Int × Bool)) × (List (ByteArray × Int × Int × Int × Bool × Int)) × Int × Int × Int × Int × Int) (name : ByteArray) {R : Type} (K : Int → Bool → Option R) : Option R :=
  impl_IsRules k r fun (r0 : Bool) =>
  bif !r0 then
    K (0 : Int) false
  else
    impl_kindIndex k r.2.1 name fun (r1 : Int) =>
    bif decide (r1 < (0 : Int)) then
      K (0 : Int) false
    else
      impl_kindIndex k r.2.1 name fun (r2 : Int) =>
      K r2 true
/-- laws.FnExactKindNamed -/
def laws_FnExactKindNamed (k : Nat) (aR : (List (ByteArray × (List Int) × Int × Int × Bool)) × (List (ByteArray × Int × Int × Int × Bool × Int)) × Int × Int × Int × Int × Int) (aName : ByteArray) {R : Type} (K : Bool → Option R) : Option R :=
  bif decide ((1048576 : Int) < ((ByteArray.size aName : Nat) : Int)) then
    K true
  else
    laws_szRules k aR (1048576 : Int) fun (r : Int) =>
    bif decide (r < (0 : Int)) then
      K true
    else
      laws_toRules k aR fun (r0 : (List (ByteArray × (List Int) × Int × Int × Bool)) × (List (ByteArray × Int × Int × Int × Bool × Int)) × Int × Int × Int × Int × Int) =>
      spec_KindNamed k r0 aName fun (r1 : Int) (r2 : Bool) =>
      laws_toRules k aR fun (r3 : (List (ByteArray × (List Int) × Int × Int × Bool)) × (List (ByteArray × Int × Int × Int × Bool × Int)) × Int × Int × Int × Int × Int) =>
      impl_KindNamed k r3 aName fun (r4 : Int) (r5 : Bool) =>
      bif !(decide (r4 = r1)) then
        K false
      else
        bif !(r5 == r2) then
          K false
        else
          laws_toRules k aR fun (r6 : (List (ByteArray × (List Int) × Int × Int × Bool)) × (List (ByteArray × Int × Int × Int × Bool × Int)) × Int × Int × Int × Int × Int) =>
          laws_eqRules k r3 r6 fun (r7 : Bool) =>
          bif !r7 then
            K false
          else
            K true
/-- spec.TerrainNamed -/
def spec_TerrainNamed (k : Nat) (r : (List (ByteArray × (List Int) × Int × Int × Bool)) × (List (ByteArray × Int × Int × Int × Bool × Int)) × Int × Int × Int × Int × Int) (name : ByteArray) {R : Type} (K : Int → Bool → Option R) : Option R :=
  spec_rGood k r fun (r0 : Bool) =>
  bif !r0 then
    K (0 : Int) false
  else
    spec_rTerrain k r.1 name fun (r1 : Int) =>
    bif decide (r1 < (0 : Int)) then
      K (0 : Int) false
    else
      spec_rTerrain k r.1 name fun (r2 : Int) =>
      K r2 true
/-- impl.TerrainNamed -/
def impl_TerrainNamed (k : Nat) (r : (List (ByteArray × (List Int) × Int × Int × Bool)) × (List (ByteArray × Int × Int × Int × Bool × Int)) × Int × Int × Int × Int × Int) (name : ByteArray) {R : Type} (K : Int → Bool → Option R) : Option R :=
  impl_IsRules k r fun (r0 : Bool) =>
  bif !r0 then
    K (0 : Int) false
  else
    impl_terrainIndex k r.1 name fun (r1 : Int) =>
    bif decide (r1 < (0 : Int)) then
      K (0 : Int) false
    else
      impl_terrainIndex k r.1 name fun (r2 : Int) =>
      K r2 true
/-- laws.FnExactTerrainNamed -/
def laws_FnExactTerrainNamed (k : Nat) (aR : (List (ByteArray × (List Int) × Int × Int × Bool)) × (List (ByteArray × Int × Int × Int × Bool × Int)) × Int × Int × Int × Int × Int) (aName : ByteArray) {R : Type} (K : Bool → Option R) : Option R :=
  bif decide ((1048576 : Int) < ((ByteArray.size aName : Nat) : Int)) then
    K true
  else
    laws_szRules k aR (1048576 : Int) fun (r : Int) =>
    bif decide (r < (0 : Int)) then
      K true
    else
      laws_toRules k aR fun (r0 : (List (ByteArray × (List Int) × Int × Int × Bool)) × (List (ByteArray × Int × Int × Int × Bool × Int)) × Int × Int × Int × Int × Int) =>
      spec_TerrainNamed k r0 aName fun (r1 : Int) (r2 : Bool) =>
      laws_toRules k aR fun (r3 : (List (ByteArray × (List Int) × Int × Int × Bool)) × (List (ByteArray × Int × Int × Int × Bool × Int)) × Int × Int × Int × Int × Int) =>
      impl_TerrainNamed k r3 aName fun (r4 : Int) (r5 : Bool) =>
      bif !(decide (r4 = r1)) then
        K false
      else
        bif !(r5 == r2) then
          K false
        else
          laws_toRules k aR fun (r6 : (List (ByteArray × (List Int) × Int × Int × Bool)) × (List (ByteArray × Int × Int × Int × Bool × Int)) × Int × Int × Int × Int × Int) =>
          laws_eqRules k r3 r6 fun (r7 : Bool) =>
          bif !r7 then
            K false
          else
            K true
end Go.Lg
