/- The program's tables, as plain values; what library functions answer. -/
import Derived.Test.YtncllndlbeghjaaDoorEv1
import Derived.Lib.ItoaNum
import Derived.Lib.Join
import Derived.Lib.SplitLaws
import Derived.Lib.AtoiAll
import Derived.Test.YtncllndlbeghjaaDoorEv3
import Derived.Lib.LaidTab
import Derived.Lib.AppendIntMem
import Derived.Handed
import Derived.SizedLaws
import Derived.LaidLaws
import Derived.Shelf.Vars
import Derived.IntWalk
import Derived.Lib.ItoaMem
import Derived.Lib.ItoaLen
set_option linter.unusedVariables false
set_option linter.unusedSimpArgs false
set_option linter.unusedSectionVars false
namespace Go.Lg
open Go Go.Ev
def impl_directions : List (Int × Int) := [((1 : Int), (0 : Int)), ((1 : Int), (-1 : Int)), ((0 : Int), (-1 : Int)), ((-1 : Int), (0 : Int)), ((-1 : Int), (1 : Int)), ((0 : Int), (1 : Int))]
def impl_limitNames : List ByteArray := [(⟨#[115, 116, 97, 99, 107]⟩ : ByteArray), (⟨#[114, 105, 118, 101, 114]⟩ : ByteArray), (⟨#[114, 111, 97, 100]⟩ : ByteArray), (⟨#[115, 117, 112, 112, 108, 121]⟩ : ByteArray), (⟨#[116, 117, 114, 110, 115]⟩ : ByteArray)]
def itoaB (n : Int) : ByteArray := ⟨(Lib.itoa n).toArray⟩
def joinB (xs : List ByteArray) (sep : ByteArray) : ByteArray := ⟨(Lib.join (xs.map fun x => x.data.toList) sep.data.toList).toArray⟩
def strconv_Itoa (n : Int) {R : Type} (K : ByteArray → Option R) : Option R :=
  bif decide (-9223372036854775808 ≤ n) && decide (n ≤ 9223372036854775807) then K (itoaB n) else none
def strings_Join (xs : List ByteArray) (sep : ByteArray) {R : Type} (K : ByteArray → Option R) : Option R :=
  bif decide (List.length xs ≤ 140737488355328) && decide ((Lib.join (xs.map fun x => x.data.toList) sep.data.toList).length ≤ 140737488355328) then K (joinB xs sep) else none
end Go.Lg
set_option linter.unusedVariables false
namespace Go.Lg
open Go Go.Ev
/-- spec.l1In -/
def spec_l1In (n_0 : Int) (lo : Int) (hi : Int) {R : Type} (K : Bool → Option R) : Option R :=
  bif decide (lo ≤ n_0) then
    K (decide (n_0 ≤ hi))
  else
    K false
/-- impl.inRange -/
def impl_inRange (n_0 : Int) (low : Int) (high : Int) {R : Type} (K : Bool → Option R) : Option R :=
  bif decide (low ≤ n_0) then
    K (decide (n_0 ≤ high))
  else
    K false
/-- spec.l1Most -/
def spec_l1Most (a : Int) (b : Int) {R : Type} (K : Int → Option R) : Option R :=
  bif decide (b < a) then
    K a
  else
    K b
end Go.Lg
set_option linter.unusedVariables false
namespace Go.Lg
open Go Go.Ev
/-- spec.l1All -/
def spec_l1All_l0 (k : Nat) {R : Type} (K0 : Option R) (K1 : Bool → Option R) : Nat → Int → Int → (List Int) → Int → Int → Option R
  | 0, _, _, _, _, _ => none
  | m + 1, lo0, hi0, x, x0, x1 =>
    bif decide (x1 < x0) then
      bif decide ((0 : Int) ≤ x1) && decide (x1 < ((List.length x : Nat) : Int)) then
        spec_l1In (List.getD x (Int.toNat x1) (0 : Int)) lo0 hi0 fun (r : Bool) =>
        bif !r then
          K1 false
        else
          spec_l1All_l0 k K0 K1 m lo0 hi0 x x0 (IntKind.wrap .i64 (x1 + (1 : Int)))
      else
        none
    else
      K0
def spec_l1All (k : Nat) (l : List Int) (lo : Int) (hi : Int) {R : Type} (K : Bool → Option R) : Option R :=
  spec_l1All_l0 k (
    K true) (fun (x2 : Bool) =>
    K x2) k lo hi l ((List.length l : Nat) : Int) (0 : Int)
/-- laws.eqIntS -/
def laws_eqIntS_l0 (k : Nat) {R : Type} (K0 : Option R) (K1 : Bool → Option R) : Nat → (List Int) → (List Int) → Int → Option R
  | 0, _, _, _ => none
  | m + 1, a0, b0, i =>
    bif decide (i < ((List.length a0 : Nat) : Int)) then
      bif decide ((0 : Int) ≤ i) && decide (i < ((List.length a0 : Nat) : Int)) then
        bif decide ((0 : Int) ≤ i) && decide (i < ((List.length b0 : Nat) : Int)) then
          bif !(decide (List.getD a0 (Int.toNat i) (0 : Int) = List.getD b0 (Int.toNat i) (0 : Int))) then
            K1 false
          else
            laws_eqIntS_l0 k K0 K1 m a0 b0 (IntKind.wrap .i64 (i + (1 : Int)))
        else
          none
      else
        none
    else
      K0
def laws_eqIntS (k : Nat) (a : List Int) (b : List Int) {R : Type} (K : Bool → Option R) : Option R :=
  bif !(decide (((List.length a : Nat) : Int) = ((List.length b : Nat) : Int))) then
    K false
  else
    laws_eqIntS_l0 k (
      K true) (fun (x : Bool) =>
      K x) k a b (0 : Int)
/-- spec.l1Num -/
def spec_l1Num {R : Type} : Nat → Int → (ByteArray → Option R) → Option R
  | 0, _, _ => none
  | d + 1, n_0, K =>
    bif decide (n_0 < (10 : Int)) then
      K (bytesOfInts [IntKind.wrap .u8 (IntKind.wrap .i64 ((48 : Int) + n_0))])
    else
      spec_l1Num d (IntKind.wrap .i64 (Int.tdiv n_0 (10 : Int))) fun (r : ByteArray) =>
      bif decide (ByteArray.size r + ByteArray.size (bytesOfInts [IntKind.wrap .u8 (IntKind.wrap .i64 ((48 : Int) + (Int.tmod n_0 (10 : Int))))]) ≤ maxGrow) then
        K (r ++ (bytesOfInts [IntKind.wrap .u8 (IntKind.wrap .i64 ((48 : Int) + (Int.tmod n_0 (10 : Int))))]))
      else
        none
/-- impl.wordsText -/
def impl_wordsText_l0 (k : Nat) {R : Type} (K0 : (List ByteArray) → Option R) : Nat → (List Int) → Int → Int → (List ByteArray) → Option R
  | 0, _, _, _, _ => none
  | m + 1, x, x0, x1, parts =>
    bif decide (x1 < x0) then
      bif decide ((0 : Int) ≤ x1) && decide (x1 < ((List.length x : Nat) : Int)) then
        strconv_Itoa (List.getD x (Int.toNat x1) (0 : Int)) fun (r : ByteArray) =>
        bif decide (List.length parts + List.length [r] ≤ maxGrow) then
          impl_wordsText_l0 k K0 m x x0 (IntKind.wrap .i64 (x1 + (1 : Int))) (parts ++ [r])
        else
          none
      else
        none
    else
      K0 parts
def impl_wordsText (k : Nat) (word : ByteArray) (list : List Int) {R : Type} (K : ByteArray → Option R) : Option R :=
  impl_wordsText_l0 k (fun (parts0 : List ByteArray) =>
    strings_Join parts0 (⟨#[32]⟩ : ByteArray) fun (r0 : ByteArray) =>
    K r0) k list ((List.length list : Nat) : Int) (0 : Int) [word]
end Go.Lg
set_option linter.unusedVariables false
namespace Go.Lg
open Go Go.Ev
/-- spec.kRows -/
def spec_kRows (dice : Int) {R : Type} (K : Int → Option R) : Option R :=
  K (IntKind.wrap .i64 ((IntKind.wrap .i64 ((5 : Int) * dice)) + (1 : Int)))
/-- spec.kGood -/
def spec_kGood_l0 (k : Nat) {R : Type} (K0 : ((List (Int × Int)) × Int × List (List Int)) → Option R) (K1 : Bool → Option R) : Nat → (List (Int × Int)) → Int → Int → ((List (Int × Int)) × Int × List (List Int)) → Option R
  | 0, _, _, _, _ => none
  | m + 1, x0, x1, x2, x3 =>
    bif decide (x2 < x1) then
      bif decide ((0 : Int) ≤ x2) && decide (x2 < ((List.length x0 : Nat) : Int)) then
        spec_l1In (List.getD x0 (Int.toNat x2) ((0 : Int), (0 : Int))).1 (1 : Int) (20 : Int) fun (r2 : Bool) =>
        bif !r2 then
          K1 false
        else
          spec_l1In (List.getD x0 (Int.toNat x2) ((0 : Int), (0 : Int))).2 (1 : Int) (20 : Int) fun (r3 : Bool) =>
          bif !r3 then
            K1 false
          else
            bif decide ((0 : Int) < x2) then
              bif decide ((0 : Int) ≤ IntKind.wrap .i64 (x2 - (1 : Int))) && decide (IntKind.wrap .i64 (x2 - (1 : Int)) < ((List.length x3.1 : Nat) : Int)) then
                bif decide ((0 : Int) ≤ IntKind.wrap .i64 (x2 - (1 : Int))) && decide (IntKind.wrap .i64 (x2 - (1 : Int)) < ((List.length x3.1 : Nat) : Int)) then
                  bif decide (IntKind.wrap .i64 ((List.getD x0 (Int.toNat x2) ((0 : Int), (0 : Int))).1 * (List.getD x3.1 (Int.toNat (IntKind.wrap .i64 (x2 - (1 : Int)))) ((0 : Int), (0 : Int))).2) ≤ IntKind.wrap .i64 ((List.getD x3.1 (Int.toNat (IntKind.wrap .i64 (x2 - (1 : Int)))) ((0 : Int), (0 : Int))).1 * (List.getD x0 (Int.toNat x2) ((0 : Int), (0 : Int))).2)) then
                    K1 false
                  else
                    spec_kGood_l0 k K0 K1 m x0 x1 (IntKind.wrap .i64 (x2 + (1 : Int))) x3
                else
                  none
              else
                none
            else
              spec_kGood_l0 k K0 K1 m x0 x1 (IntKind.wrap .i64 (x2 + (1 : Int))) x3
      else
        none
    else
      K0 x3
def spec_kGood_l1 (k : Nat) {R : Type} (K0 : Option R) (K1 : Bool → Option R) : Nat → (List (List Int)) → Int → Int → ((List (Int × Int)) × Int × List (List Int)) → Option R
  | 0, _, _, _, _ => none
  | m + 1, x5, x6, x7, x8 =>
    bif decide (x7 < x6) then
      bif decide ((0 : Int) ≤ x7) && decide (x7 < ((List.length x5 : Nat) : Int)) then
        bif !(decide (((List.length (List.getD x5 (Int.toNat x7) []) : Nat) : Int) = ((List.length x8.1 : Nat) : Int))) then
          K1 false
        else
          spec_l1All k (List.getD x5 (Int.toNat x7) []) (0 : Int) (7 : Int) fun (r4 : Bool) =>
          bif !r4 then
            K1 false
          else
            spec_kGood_l1 k K0 K1 m x5 x6 (IntKind.wrap .i64 (x7 + (1 : Int))) x8
      else
        none
    else
      K0
def spec_kGood (k : Nat) (x : (List (Int × Int)) × Int × List (List Int)) {R : Type} (K : Bool → Option R) : Option R :=
  spec_l1In ((List.length x.1 : Nat) : Int) (1 : Int) (8 : Int) fun (r : Bool) =>
  bif !r then
    K false
  else
    spec_l1In x.2.1 (1 : Int) (2 : Int) fun (r0 : Bool) =>
    bif !r0 then
      K false
    else
      spec_kRows x.2.1 fun (r1 : Int) =>
      bif !(decide (((List.length x.2.2 : Nat) : Int) = r1)) then
        K false
      else
        spec_kGood_l0 k (fun (x4 : (List (Int × Int)) × Int × List (List Int)) =>
          spec_kGood_l1 k (
            K true) (fun (x9 : Bool) =>
            K x9) k x4.2.2 ((List.length x4.2.2 : Nat) : Int) (0 : Int) x4) (fun (x10 : Bool) =>
          K x10) k x.1 ((List.length x.1 : Nat) : Int) (0 : Int) x
/-- impl.isResult -/
def impl_isResult (n_0 : Int) {R : Type} (K : Bool → Option R) : Option R :=
  impl_inRange n_0 (0 : Int) (7 : Int) fun (r : Bool) =>
  K r
/-- impl.IsCombatTable$1 -/
def impl_IsCombatTable_1 (n_0 : Int) {R : Type} (K : Bool → Option R) : Option R :=
  impl_isResult n_0 fun (r : Bool) =>
  K (!r)
/-- slices.IndexFunc[[]int,int] -/
def slices_IndexFunc_Sint_int__impl_IsCombatTable_1_l0 (k : Nat) {R : Type} (K0 : Option R) (K1 : Int → Option R) : Nat → (List Int) → Int → Int → Option R
  | 0, _, _, _ => none
  | m + 1, s0, x, x0 =>
    bif decide (x0 < x) then
      bif decide ((0 : Int) ≤ x0) && decide (x0 < ((List.length s0 : Nat) : Int)) then
        impl_IsCombatTable_1 (List.getD s0 (Int.toNat x0) (0 : Int)) fun (r : Bool) =>
        bif r then
          K1 x0
        else
          slices_IndexFunc_Sint_int__impl_IsCombatTable_1_l0 k K0 K1 m s0 x (IntKind.wrap .i64 (x0 + (1 : Int)))
      else
        none
    else
      K0
def slices_IndexFunc_Sint_int__impl_IsCombatTable_1 (k : Nat) (s : List Int) {R : Type} (K : Int → Option R) : Option R :=
  slices_IndexFunc_Sint_int__impl_IsCombatTable_1_l0 k (
    K (-1 : Int)) (fun (x1 : Int) =>
    K x1) k s ((List.length s : Nat) : Int) (0 : Int)
/-- slices.ContainsFunc[[]int,int] -/
def slices_ContainsFunc_Sint_int__impl_IsCombatTable_1 (k : Nat) (s : List Int) {R : Type} (K : Bool → Option R) : Option R :=
  slices_IndexFunc_Sint_int__impl_IsCombatTable_1 k s fun (r : Int) =>
  K (decide ((0 : Int) ≤ r))
/-- impl.IsCombatTable -/
def impl_IsCombatTable_l0 (k : Nat) {R : Type} (K0 : ((List (Int × Int)) × Int × List (List Int)) → Option R) (K1 : Bool → Option R) : Nat → (List (Int × Int)) → Int → Int → ((List (Int × Int)) × Int × List (List Int)) → Option R
  | 0, _, _, _, _ => none
  | m + 1, x0, x1, x2, x3 =>
    bif decide (x2 < x1) then
      bif decide ((0 : Int) ≤ x2) && decide (x2 < ((List.length x0 : Nat) : Int)) then
        impl_inRange (List.getD x0 (Int.toNat x2) ((0 : Int), (0 : Int))).1 (1 : Int) (20 : Int) fun (r1 : Bool) =>
        bif !r1 then
          K1 false
        else
          impl_inRange (List.getD x0 (Int.toNat x2) ((0 : Int), (0 : Int))).2 (1 : Int) (20 : Int) fun (r2 : Bool) =>
          bif !r2 then
            K1 false
          else
            bif decide ((0 : Int) < x2) then
              bif decide ((0 : Int) ≤ IntKind.wrap .i64 (x2 - (1 : Int))) && decide (IntKind.wrap .i64 (x2 - (1 : Int)) < ((List.length x3.1 : Nat) : Int)) then
                bif decide ((0 : Int) ≤ IntKind.wrap .i64 (x2 - (1 : Int))) && decide (IntKind.wrap .i64 (x2 - (1 : Int)) < ((List.length x3.1 : Nat) : Int)) then
                  bif decide (IntKind.wrap .i64 ((List.getD x0 (Int.toNat x2) ((0 : Int), (0 : Int))).1 * (List.getD x3.1 (Int.toNat (IntKind.wrap .i64 (x2 - (1 : Int)))) ((0 : Int), (0 : Int))).2) ≤ IntKind.wrap .i64 ((List.getD x3.1 (Int.toNat (IntKind.wrap .i64 (x2 - (1 : Int)))) ((0 : Int), (0 : Int))).1 * (List.getD x0 (Int.toNat x2) ((0 : Int), (0 : Int))).2)) then
                    K1 false
                  else
                    impl_IsCombatTable_l0 k K0 K1 m x0 x1 (IntKind.wrap .i64 (x2 + (1 : Int))) x3
                else
                  none
              else
                none
            else
              impl_IsCombatTable_l0 k K0 K1 m x0 x1 (IntKind.wrap .i64 (x2 + (1 : Int))) x3
      else
        none
    else
      K0 x3
def impl_IsCombatTable_l1 (k : Nat) {R : Type} (K0 : Option R) (K1 : Bool → Option R) : Nat → (List (List Int)) → Int → Int → ((List (Int × Int)) × Int × List (List Int)) → Option R
  | 0, _, _, _, _ => none
  | m + 1, x5, x6, x7, x8 =>
    bif decide (x7 < x6) then
      bif decide ((0 : Int) ≤ x7) && decide (x7 < ((List.length x5 : Nat) : Int)) then
        bif !(decide (((List.length (List.getD x5 (Int.toNat x7) []) : Nat) : Int) = ((List.length x8.1 : Nat) : Int))) then
          K1 false
        else
          slices_ContainsFunc_Sint_int__impl_IsCombatTable_1 k (List.getD x5 (Int.toNat x7) []) fun (r3 : Bool) =>
          bif r3 then
            K1 false
          else
            impl_IsCombatTable_l1 k K0 K1 m x5 x6 (IntKind.wrap .i64 (x7 + (1 : Int))) x8
      else
        none
    else
      K0
def impl_IsCombatTable (k : Nat) (x : (List (Int × Int)) × Int × List (List Int)) {R : Type} (K : Bool → Option R) : Option R :=
  impl_inRange ((List.length x.1 : Nat) : Int) (1 : Int) (8 : Int) fun (r : Bool) =>
  bif !r then
    K false
  else
    impl_inRange x.2.1 (1 : Int) (2 : Int) fun (r0 : Bool) =>
    bif !r0 then
      K false
    else
      bif !(decide (((List.length x.2.2 : Nat) : Int) = IntKind.wrap .i64 ((IntKind.wrap .i64 ((5 : Int) * x.2.1)) + (1 : Int)))) then
        K false
      else
        impl_IsCombatTable_l0 k (fun (x4 : (List (Int × Int)) × Int × List (List Int)) =>
          impl_IsCombatTable_l1 k (
            K true) (fun (x9 : Bool) =>
            K x9) k x4.2.2 ((List.length x4.2.2 : Nat) : Int) (0 : Int) x4) (fun (x10 : Bool) =>
          K x10) k x.1 ((List.length x.1 : Nat) : Int) (0 : Int) x
/-- laws.eqOdds -/
def laws_eqOdds (a : Int × Int) (b : Int × Int) {R : Type} (K : Bool → Option R) : Option R :=
  bif !(decide (a.1 = b.1)) then
    K false
  else
    bif !(decide (a.2 = b.2)) then
      K false
    else
      K true
/-- laws.eqOddsS -/
def laws_eqOddsS_l0 (k : Nat) {R : Type} (K0 : Option R) (K1 : Bool → Option R) : Nat → (List (Int × Int)) → (List (Int × Int)) → Int → Option R
  | 0, _, _, _ => none
  | m + 1, a0, b0, i =>
    bif decide (i < ((List.length a0 : Nat) : Int)) then
      bif decide ((0 : Int) ≤ i) && decide (i < ((List.length a0 : Nat) : Int)) then
        bif decide ((0 : Int) ≤ i) && decide (i < ((List.length b0 : Nat) : Int)) then
          laws_eqOdds (List.getD a0 (Int.toNat i) ((0 : Int), (0 : Int))) (List.getD b0 (Int.toNat i) ((0 : Int), (0 : Int))) fun (r : Bool) =>
          bif !r then
            K1 false
          else
            laws_eqOddsS_l0 k K0 K1 m a0 b0 (IntKind.wrap .i64 (i + (1 : Int)))
        else
          none
      else
        none
    else
      K0
def laws_eqOddsS (k : Nat) (a : List (Int × Int)) (b : List (Int × Int)) {R : Type} (K : Bool → Option R) : Option R :=
  bif !(decide (((List.length a : Nat) : Int) = ((List.length b : Nat) : Int))) then
    K false
  else
    laws_eqOddsS_l0 k (
      K true) (fun (x : Bool) =>
      K x) k a b (0 : Int)
/-- laws.eqIntSS -/
def laws_eqIntSS_l0 (k : Nat) {R : Type} (K0 : Option R) (K1 : Bool → Option R) : Nat → (List (List Int)) → (List (List Int)) → Int → Option R
  | 0, _, _, _ => none
  | m + 1, a0, b0, i =>
    bif decide (i < ((List.length a0 : Nat) : Int)) then
      bif decide ((0 : Int) ≤ i) && decide (i < ((List.length a0 : Nat) : Int)) then
        bif decide ((0 : Int) ≤ i) && decide (i < ((List.length b0 : Nat) : Int)) then
          laws_eqIntS k (List.getD a0 (Int.toNat i) []) (List.getD b0 (Int.toNat i) []) fun (r : Bool) =>
          bif !r then
            K1 false
          else
            laws_eqIntSS_l0 k K0 K1 m a0 b0 (IntKind.wrap .i64 (i + (1 : Int)))
        else
          none
      else
        none
    else
      K0
def laws_eqIntSS (k : Nat) (a : List (List Int)) (b : List (List Int)) {R : Type} (K : Bool → Option R) : Option R :=
  bif !(decide (((List.length a : Nat) : Int) = ((List.length b : Nat) : Int))) then
    K false
  else
    laws_eqIntSS_l0 k (
      K true) (fun (x : Bool) =>
      K x) k a b (0 : Int)
/-- laws.eqCombatTable -/
def laws_eqCombatTable (k : Nat) (a : (List (Int × Int)) × Int × List (List Int)) (b : (List (Int × Int)) × Int × List (List Int)) {R : Type} (K : Bool → Option R) : Option R :=
  laws_eqOddsS k a.1 b.1 fun (r : Bool) =>
  bif !r then
    K false
  else
    bif !(decide (a.2.1 = b.2.1)) then
      K false
    else
      laws_eqIntSS k a.2.2 b.2.2 fun (r0 : Bool) =>
      bif !r0 then
        K false
      else
        K true
end Go.Lg
set_option linter.unusedVariables false
namespace Go.Lg
open Go Go.Ev
end Go.Lg
set_option linter.unusedVariables false
namespace Go.Lg
open Go Go.Ev
/-- spec.kText -/
def spec_kText_l0 (k : Nat) {R : Type} (K0 : ByteArray → ((List (Int × Int)) × Int × List (List Int)) → Option R) : Nat → ByteArray → (List (Int × Int)) → Int → Int → ((List (Int × Int)) × Int × List (List Int)) → Option R
  | 0, _, _, _, _, _ => none
  | m + 1, out, x, x0, x1, t0 =>
    bif decide (x1 < x0) then
      bif decide ((0 : Int) ≤ x1) && decide (x1 < ((List.length x : Nat) : Int)) then
        spec_l1Num k (List.getD x (Int.toNat x1) ((0 : Int), (0 : Int))).1 fun (r : ByteArray) =>
        bif decide (ByteArray.size (⟨#[32]⟩ : ByteArray) + ByteArray.size r ≤ maxGrow) then
          bif decide (ByteArray.size ((⟨#[32]⟩ : ByteArray) ++ r) + ByteArray.size (⟨#[47]⟩ : ByteArray) ≤ maxGrow) then
            spec_l1Num k (List.getD x (Int.toNat x1) ((0 : Int), (0 : Int))).2 fun (r0 : ByteArray) =>
            bif decide (ByteArray.size (((⟨#[32]⟩ : ByteArray) ++ r) ++ (⟨#[47]⟩ : ByteArray)) + ByteArray.size r0 ≤ maxGrow) then
              bif decide (ByteArray.size out + ByteArray.size ((((⟨#[32]⟩ : ByteArray) ++ r) ++ (⟨#[47]⟩ : ByteArray)) ++ r0) ≤ maxGrow) then
                spec_kText_l0 k K0 m (out ++ ((((⟨#[32]⟩ : ByteArray) ++ r) ++ (⟨#[47]⟩ : ByteArray)) ++ r0)) x x0 (IntKind.wrap .i64 (x1 + (1 : Int))) t0
              else
                none
            else
              none
          else
            none
        else
          none
      else
        none
    else
      K0 out t0
def spec_kText_l1 (k : Nat) {R : Type} (K0 : ByteArray → (List (List Int)) → Int → Int → Option R) : Nat → ByteArray → (List (List Int)) → Int → Int → (List Int) → Int → Int → Option R
  | 0, _, _, _, _, _, _, _ => none
  | m + 1, out2, x5, x6, x7, x8, x9, x10 =>
    bif decide (x10 < x9) then
      bif decide ((0 : Int) ≤ x10) && decide (x10 < ((List.length x8 : Nat) : Int)) then
        spec_l1Num k (List.getD x8 (Int.toNat x10) (0 : Int)) fun (r2 : ByteArray) =>
        bif decide (ByteArray.size out2 + ByteArray.size r2 ≤ maxGrow) then
          spec_kText_l1 k K0 m (out2 ++ r2) x5 x6 x7 x8 x9 (IntKind.wrap .i64 (x10 + (1 : Int)))
        else
          none
      else
        none
    else
      K0 out2 x5 x6 x7
def spec_kText_l2 (k : Nat) {R : Type} (K0 : ByteArray → Option R) : Nat → ByteArray → (List (List Int)) → Int → Int → Option R
  | 0, _, _, _, _ => none
  | m + 1, out1, x2, x3, x4 =>
    bif decide (x4 < x3) then
      bif decide ((0 : Int) ≤ x4) && decide (x4 < ((List.length x2 : Nat) : Int)) then
        spec_kText_l1 k (fun (out3 : ByteArray) (x11 : List (List Int)) (x12 : Int) (x13 : Int) =>
          bif decide (ByteArray.size out3 + ByteArray.size (⟨#[10]⟩ : ByteArray) ≤ maxGrow) then
            spec_kText_l2 k K0 m (out3 ++ (⟨#[10]⟩ : ByteArray)) x11 x12 (IntKind.wrap .i64 (x13 + (1 : Int)))
          else
            none) k out1 x2 x3 x4 (List.getD x2 (Int.toNat x4) []) ((List.length (List.getD x2 (Int.toNat x4) []) : Nat) : Int) (0 : Int)
      else
        none
    else
      K0 out1
def spec_kText (k : Nat) (t : (List (Int × Int)) × Int × List (List Int)) {R : Type} (K : ByteArray → Option R) : Option R :=
  spec_kText_l0 k (fun (out0 : ByteArray) (t1 : (List (Int × Int)) × Int × List (List Int)) =>
    spec_l1Num k t1.2.1 fun (r1 : ByteArray) =>
    bif decide (ByteArray.size (⟨#[32, 100, 105, 99, 101, 32]⟩ : ByteArray) + ByteArray.size r1 ≤ maxGrow) then
      bif decide (ByteArray.size ((⟨#[32, 100, 105, 99, 101, 32]⟩ : ByteArray) ++ r1) + ByteArray.size (⟨#[10]⟩ : ByteArray) ≤ maxGrow) then
        bif decide (ByteArray.size out0 + ByteArray.size (((⟨#[32, 100, 105, 99, 101, 32]⟩ : ByteArray) ++ r1) ++ (⟨#[10]⟩ : ByteArray)) ≤ maxGrow) then
          spec_kText_l2 k (fun (out4 : ByteArray) =>
            K out4) k (out0 ++ (((⟨#[32, 100, 105, 99, 101, 32]⟩ : ByteArray) ++ r1) ++ (⟨#[10]⟩ : ByteArray))) t1.2.2 ((List.length t1.2.2 : Nat) : Int) (0 : Int)
        else
          none
      else
        none
    else
      none) k (⟨#[111, 100, 100, 115]⟩ : ByteArray) t.1 ((List.length t.1 : Nat) : Int) (0 : Int) t
/-- impl.tableText -/
def impl_tableText_l0 (k : Nat) {R : Type} (K0 : ByteArray → ((List (Int × Int)) × Int × List (List Int)) → Option R) : Nat → ByteArray → (List (Int × Int)) → Int → Int → ((List (Int × Int)) × Int × List (List Int)) → Option R
  | 0, _, _, _, _, _ => none
  | m + 1, out, x, x0, x1, t0 =>
    bif decide (x1 < x0) then
      bif decide ((0 : Int) ≤ x1) && decide (x1 < ((List.length x : Nat) : Int)) then
        strconv_Itoa (List.getD x (Int.toNat x1) ((0 : Int), (0 : Int))).1 fun (r : ByteArray) =>
        bif decide (ByteArray.size (⟨#[32]⟩ : ByteArray) + ByteArray.size r ≤ maxGrow) then
          bif decide (ByteArray.size ((⟨#[32]⟩ : ByteArray) ++ r) + ByteArray.size (⟨#[47]⟩ : ByteArray) ≤ maxGrow) then
            strconv_Itoa (List.getD x (Int.toNat x1) ((0 : Int), (0 : Int))).2 fun (r0 : ByteArray) =>
            bif decide (ByteArray.size (((⟨#[32]⟩ : ByteArray) ++ r) ++ (⟨#[47]⟩ : ByteArray)) + ByteArray.size r0 ≤ maxGrow) then
              bif decide (ByteArray.size out + ByteArray.size ((((⟨#[32]⟩ : ByteArray) ++ r) ++ (⟨#[47]⟩ : ByteArray)) ++ r0) ≤ maxGrow) then
                impl_tableText_l0 k K0 m (out ++ ((((⟨#[32]⟩ : ByteArray) ++ r) ++ (⟨#[47]⟩ : ByteArray)) ++ r0)) x x0 (IntKind.wrap .i64 (x1 + (1 : Int))) t0
              else
                none
            else
              none
          else
            none
        else
          none
      else
        none
    else
      K0 out t0
def impl_tableText_l1 (k : Nat) {R : Type} (K0 : ByteArray → (List (List Int)) → Int → Int → Option R) : Nat → ByteArray → (List (List Int)) → Int → Int → (List Int) → Int → Int → Option R
  | 0, _, _, _, _, _, _, _ => none
  | m + 1, out2, x5, x6, x7, x8, x9, x10 =>
    bif decide (x10 < x9) then
      bif decide ((0 : Int) ≤ x10) && decide (x10 < ((List.length x8 : Nat) : Int)) then
        strconv_Itoa (List.getD x8 (Int.toNat x10) (0 : Int)) fun (r2 : ByteArray) =>
        bif decide (ByteArray.size out2 + ByteArray.size r2 ≤ maxGrow) then
          impl_tableText_l1 k K0 m (out2 ++ r2) x5 x6 x7 x8 x9 (IntKind.wrap .i64 (x10 + (1 : Int)))
        else
          none
      else
        none
    else
      K0 out2 x5 x6 x7
def impl_tableText_l2 (k : Nat) {R : Type} (K0 : ByteArray → Option R) : Nat → ByteArray → (List (List Int)) → Int → Int → Option R
  | 0, _, _, _, _ => none
  | m + 1, out1, x2, x3, x4 =>
    bif decide (x4 < x3) then
      bif decide ((0 : Int) ≤ x4) && decide (x4 < ((List.length x2 : Nat) : Int)) then
        impl_tableText_l1 k (fun (out3 : ByteArray) (x11 : List (List Int)) (x12 : Int) (x13 : Int) =>
          bif decide (ByteArray.size out3 + ByteArray.size (⟨#[10]⟩ : ByteArray) ≤ maxGrow) then
            impl_tableText_l2 k K0 m (out3 ++ (⟨#[10]⟩ : ByteArray)) x11 x12 (IntKind.wrap .i64 (x13 + (1 : Int)))
          else
            none) k out1 x2 x3 x4 (List.getD x2 (Int.toNat x4) []) ((List.length (List.getD x2 (Int.toNat x4) []) : Nat) : Int) (0 : Int)
      else
        none
    else
      K0 out1
def impl_tableText (k : Nat) (t : (List (Int × Int)) × Int × List (List Int)) {R : Type} (K : ByteArray → Option R) : Option R :=
  impl_tableText_l0 k (fun (out0 : ByteArray) (t1 : (List (Int × Int)) × Int × List (List Int)) =>
    impl_wordsText k (⟨#[32, 100, 105, 99, 101]⟩ : ByteArray) [t1.2.1] fun (r1 : ByteArray) =>
    bif decide (ByteArray.size r1 + ByteArray.size (⟨#[10]⟩ : ByteArray) ≤ maxGrow) then
      bif decide (ByteArray.size out0 + ByteArray.size (r1 ++ (⟨#[10]⟩ : ByteArray)) ≤ maxGrow) then
        impl_tableText_l2 k (fun (out4 : ByteArray) =>
          K out4) k (out0 ++ (r1 ++ (⟨#[10]⟩ : ByteArray))) t1.2.2 ((List.length t1.2.2 : Nat) : Int) (0 : Int)
      else
        none
    else
      none) k (⟨#[111, 100, 100, 115]⟩ : ByteArray) t.1 ((List.length t.1 : Nat) : Int) (0 : Int) t
end Go.Lg
set_option linter.unusedVariables false
namespace Go.Lg
open Go Go.Ev
/-- laws.markHexS -/
def laws_markHexS_in_l0 (k : Nat) {R : Type} (K0 : Int → (List (Int × Int)) → Option R) : Nat → Int → Int → (List (Int × Int)) → Option R
  | 0, _, _, _ => none
  | m + 1, k_0, i, a0 =>
    bif decide (i < ((List.length a0 : Nat) : Int)) then
      bif decide ((0 : Int) ≤ i) && decide (i < ((List.length a0 : Nat) : Int)) then
        bif decide ((0 : Int) ≤ i) && decide (i < ((List.length (List.set a0 (Int.toNat i) (k_0, (List.getD a0 (Int.toNat i) ((0 : Int), (0 : Int))).2)) : Nat) : Int)) then
          laws_markHexS_in_l0 k K0 m (IntKind.wrap .i64 ((IntKind.wrap .i64 (k_0 + (1 : Int))) + (1 : Int))) (IntKind.wrap .i64 (i + (1 : Int))) (List.set (List.set a0 (Int.toNat i) (k_0, (List.getD a0 (Int.toNat i) ((0 : Int), (0 : Int))).2)) (Int.toNat i) ((List.getD (List.set a0 (Int.toNat i) (k_0, (List.getD a0 (Int.toNat i) ((0 : Int), (0 : Int))).2)) (Int.toNat i) ((0 : Int), (0 : Int))).1, IntKind.wrap .i64 (k_0 + (1 : Int))))
        else
          none
      else
        none
    else
      K0 k_0 a0
def laws_markHexS_in (k : Nat) (a : List (Int × Int)) (k_ : Int) {R : Type} (K : (List (Int × Int)) → Int → Option R) : Option R :=
  laws_markHexS_in_l0 k (fun (k_1 : Int) (b : List (Int × Int)) =>
    K b k_1) k k_ (0 : Int) a
/-- laws.heldHexS -/
def laws_heldHexS_l0 (k : Nat) {R : Type} (K0 : Int → Option R) (K1 : Int → Option R) : Nat → (List (Int × Int)) → Int → Int → Option R
  | 0, _, _, _ => none
  | m + 1, a0, k_0, i =>
    bif decide (i < ((List.length a0 : Nat) : Int)) then
      bif decide ((0 : Int) ≤ i) && decide (i < ((List.length a0 : Nat) : Int)) then
        bif !(decide ((List.getD a0 (Int.toNat i) ((0 : Int), (0 : Int))).1 = k_0)) then
          K1 (-1 : Int)
        else
          bif decide ((0 : Int) ≤ i) && decide (i < ((List.length a0 : Nat) : Int)) then
            bif !(decide ((List.getD a0 (Int.toNat i) ((0 : Int), (0 : Int))).2 = IntKind.wrap .i64 (k_0 + (1 : Int)))) then
              K1 (-1 : Int)
            else
              laws_heldHexS_l0 k K0 K1 m a0 (IntKind.wrap .i64 ((IntKind.wrap .i64 (k_0 + (1 : Int))) + (1 : Int))) (IntKind.wrap .i64 (i + (1 : Int)))
          else
            none
      else
        none
    else
      K0 k_0
def laws_heldHexS (k : Nat) (a : List (Int × Int)) (k_ : Int) {R : Type} (K : Int → Option R) : Option R :=
  laws_heldHexS_l0 k (fun (k_1 : Int) =>
    K k_1) (fun (x : Int) =>
    K x) k a k_ (0 : Int)
/-- laws.markIntS -/
def laws_markIntS_in_l0 (k : Nat) {R : Type} (K0 : Int → (List Int) → Option R) : Nat → Int → Int → (List Int) → Option R
  | 0, _, _, _ => none
  | m + 1, k_0, i, a0 =>
    bif decide (i < ((List.length a0 : Nat) : Int)) then
      bif decide ((0 : Int) ≤ i) && decide (i < ((List.length a0 : Nat) : Int)) then
        laws_markIntS_in_l0 k K0 m (IntKind.wrap .i64 (k_0 + (1 : Int))) (IntKind.wrap .i64 (i + (1 : Int))) (List.set a0 (Int.toNat i) k_0)
      else
        none
    else
      K0 k_0 a0
def laws_markIntS_in (k : Nat) (a : List Int) (k_ : Int) {R : Type} (K : (List Int) → Int → Option R) : Option R :=
  laws_markIntS_in_l0 k (fun (k_1 : Int) (b : List Int) =>
    K b k_1) k k_ (0 : Int) a
/-- laws.heldIntS -/
def laws_heldIntS_l0 (k : Nat) {R : Type} (K0 : Int → Option R) (K1 : Int → Option R) : Nat → (List Int) → Int → Int → Option R
  | 0, _, _, _ => none
  | m + 1, a0, k_0, i =>
    bif decide (i < ((List.length a0 : Nat) : Int)) then
      bif decide ((0 : Int) ≤ i) && decide (i < ((List.length a0 : Nat) : Int)) then
        bif !(decide (List.getD a0 (Int.toNat i) (0 : Int) = k_0)) then
          K1 (-1 : Int)
        else
          laws_heldIntS_l0 k K0 K1 m a0 (IntKind.wrap .i64 (k_0 + (1 : Int))) (IntKind.wrap .i64 (i + (1 : Int)))
      else
        none
    else
      K0 k_0
def laws_heldIntS (k : Nat) (a : List Int) (k_ : Int) {R : Type} (K : Int → Option R) : Option R :=
  laws_heldIntS_l0 k (fun (k_1 : Int) =>
    K k_1) (fun (x : Int) =>
    K x) k a k_ (0 : Int)
end Go.Lg
/- Sorting numbers, in plain words. -/
namespace Go.Lg
open Go Go.Ev
def sortI (xs : List Int) : List Int := xs.mergeSort fun x y => decide (x ≤ y)
def slices_Sort (xs : List Int) {R : Type} (K : List Int → Option R) : Option R := bif decide (List.length xs < 4611686018427387904) then K (sortI xs) else none
end Go.Lg
set_option linter.unusedVariables false
namespace Go.Lg
open Go Go.Ev
end Go.Lg
set_option linter.unusedVariables false
namespace Go.Lg
open Go Go.Ev
/-- laws.markOddsS -/
def laws_markOddsS_in_l0 (k : Nat) {R : Type} (K0 : Int → (List (Int × Int)) → Option R) : Nat → Int → Int → (List (Int × Int)) → Option R
  | 0, _, _, _ => none
  | m + 1, k_0, i, a0 =>
    bif decide (i < ((List.length a0 : Nat) : Int)) then
      bif decide ((0 : Int) ≤ i) && decide (i < ((List.length a0 : Nat) : Int)) then
        bif decide ((0 : Int) ≤ i) && decide (i < ((List.length (List.set a0 (Int.toNat i) (k_0, (List.getD a0 (Int.toNat i) ((0 : Int), (0 : Int))).2)) : Nat) : Int)) then
          laws_markOddsS_in_l0 k K0 m (IntKind.wrap .i64 ((IntKind.wrap .i64 (k_0 + (1 : Int))) + (1 : Int))) (IntKind.wrap .i64 (i + (1 : Int))) (List.set (List.set a0 (Int.toNat i) (k_0, (List.getD a0 (Int.toNat i) ((0 : Int), (0 : Int))).2)) (Int.toNat i) ((List.getD (List.set a0 (Int.toNat i) (k_0, (List.getD a0 (Int.toNat i) ((0 : Int), (0 : Int))).2)) (Int.toNat i) ((0 : Int), (0 : Int))).1, IntKind.wrap .i64 (k_0 + (1 : Int))))
        else
          none
      else
        none
    else
      K0 k_0 a0
def laws_markOddsS_in (k : Nat) (a : List (Int × Int)) (k_ : Int) {R : Type} (K : (List (Int × Int)) → Int → Option R) : Option R :=
  laws_markOddsS_in_l0 k (fun (k_1 : Int) (b : List (Int × Int)) =>
    K b k_1) k k_ (0 : Int) a
/-- laws.markIntSS -/
def laws_markIntSS_in_l0 (k : Nat) {R : Type} (K0 : Int → (List (List Int)) → Option R) : Nat → Int → Int → (List (List Int)) → Option R
  | 0, _, _, _ => none
  | m + 1, k_0, i, a0 =>
    bif decide (i < ((List.length a0 : Nat) : Int)) then
      bif decide ((0 : Int) ≤ i) && decide (i < ((List.length a0 : Nat) : Int)) then
        laws_markIntS_in k (List.getD a0 (Int.toNat i) []) k_0 fun (t : List Int) (r : Int) =>
        laws_markIntSS_in_l0 k K0 m r (IntKind.wrap .i64 (i + (1 : Int))) (List.set a0 (Int.toNat i) t)
      else
        none
    else
      K0 k_0 a0
def laws_markIntSS_in (k : Nat) (a : List (List Int)) (k_ : Int) {R : Type} (K : (List (List Int)) → Int → Option R) : Option R :=
  laws_markIntSS_in_l0 k (fun (k_1 : Int) (b : List (List Int)) =>
    K b k_1) k k_ (0 : Int) a
/-- laws.markCombatTable -/
def laws_markCombatTable_in (k : Nat) (a : (List (Int × Int)) × Int × List (List Int)) (k_ : Int) {R : Type} (K : ((List (Int × Int)) × Int × List (List Int)) → Int → Option R) : Option R :=
  laws_markOddsS_in k a.1 k_ fun (t : List (Int × Int)) (r : Int) =>
  laws_markIntSS_in k a.2.2 r fun (t0 : List (List Int)) (r0 : Int) =>
  K (t, (a.2.1, t0)) r0
end Go.Lg
set_option linter.unusedVariables false
namespace Go.Lg
open Go Go.Ev
/-- laws.heldIntSS -/
def laws_heldIntSS_l0 (k : Nat) {R : Type} (K0 : Int → Option R) (K1 : Int → Option R) : Nat → (List (List Int)) → Int → Int → Option R
  | 0, _, _, _ => none
  | m + 1, a0, k_0, i =>
    bif decide (i < ((List.length a0 : Nat) : Int)) then
      bif decide ((0 : Int) ≤ i) && decide (i < ((List.length a0 : Nat) : Int)) then
        laws_heldIntS k (List.getD a0 (Int.toNat i) []) k_0 fun (r : Int) =>
        bif decide (r < (0 : Int)) then
          K1 (-1 : Int)
        else
          laws_heldIntSS_l0 k K0 K1 m a0 r (IntKind.wrap .i64 (i + (1 : Int)))
      else
        none
    else
      K0 k_0
def laws_heldIntSS (k : Nat) (a : List (List Int)) (k_ : Int) {R : Type} (K : Int → Option R) : Option R :=
  laws_heldIntSS_l0 k (fun (k_1 : Int) =>
    K k_1) (fun (x : Int) =>
    K x) k a k_ (0 : Int)
end Go.Lg
set_option linter.unusedVariables false
namespace Go.Lg
open Go Go.Ev
end Go.Lg
set_option linter.unusedVariables false
namespace Go.Lg
open Go Go.Ev
end Go.Lg
set_option linter.unusedVariables false
namespace Go.Lg
open Go Go.Ev
end Go.Lg
/- Splitting and reading numbers, in plain words. -/
namespace Go.Lg
open Go Go.Ev
def splitV (s sep : ByteArray) : List ByteArray := Lib.splitB sep 0 (Lib.countB s sep) s
def strings_Split (s sep : ByteArray) {R : Type} (K : List ByteArray → Option R) : Option R := bif decide (ByteArray.size s < 4294967281) && decide (1 ≤ ByteArray.size sep) then K (splitV s sep) else none
def cutV (s sep : ByteArray) : ByteArray × ByteArray × Bool := (⟨(Lib.cut s.data.toList sep.data.toList).1.toArray⟩, ⟨(Lib.cut s.data.toList sep.data.toList).2.1.toArray⟩, (Lib.cut s.data.toList sep.data.toList).2.2)
def strings_Cut (s sep : ByteArray) {R : Type} (K : ByteArray → ByteArray → Bool → Option R) : Option R := bif decide (ByteArray.size s < 4294967281) then K (cutV s sep).1 (cutV s sep).2.1 (cutV s sep).2.2 else none
/-- A number of at most ten bytes in its own form. -/
def readIV (s : ByteArray) : Int × Bool := match Lib.atoiAll s.data.toList with
  | .ok v => bif decide ((10 : Int) < ((ByteArray.size s : Nat) : Int)) || !(ByteArray.toList (itoaB v) == ByteArray.toList s) then (0, false) else (v, true)
  | _ => (0, false)
def impl_readInt (s : ByteArray) {R : Type} (K : Int → Bool → Option R) : Option R := bif decide (ByteArray.size s ≤ 281474976710656) then K (readIV s).1 (readIV s).2 else none
end Go.Lg
set_option linter.unusedVariables false
namespace Go.Lg
open Go Go.Ev
/-- spec.l1Split -/
def spec_l1Split_l0 (k : Nat) {R : Type} (K0 : ByteArray → Int → (List ByteArray) → Option R) : Nat → ByteArray → Int → Int → Int → (List ByteArray) → Option R
  | 0, _, _, _, _, _ => none
  | m + 1, s0, b0, from_, i, out =>
    bif decide (i < ((ByteArray.size s0 : Nat) : Int)) then
      bif decide ((0 : Int) ≤ i) && decide (i < ((ByteArray.size s0 : Nat) : Int)) then
        bif decide (byteAt s0 i = b0) then
          bif decide ((0 : Int) ≤ from_) && decide (from_ ≤ i) && decide (i ≤ ((ByteArray.size s0 : Nat) : Int)) then
            bif decide (List.length out + List.length [ByteArray.extract s0 (Int.toNat from_) (Int.toNat i)] ≤ maxGrow) then
              spec_l1Split_l0 k K0 m s0 b0 (IntKind.wrap .i64 (i + (1 : Int))) (IntKind.wrap .i64 (i + (1 : Int))) (out ++ [ByteArray.extract s0 (Int.toNat from_) (Int.toNat i)])
            else
              none
          else
            none
        else
          spec_l1Split_l0 k K0 m s0 b0 from_ (IntKind.wrap .i64 (i + (1 : Int))) out
      else
        none
    else
      K0 s0 from_ out
def spec_l1Split (k : Nat) (s : ByteArray) (b : Int) {R : Type} (K : (List ByteArray) → Option R) : Option R :=
  spec_l1Split_l0 k (fun (s1 : ByteArray) (from_0 : Int) (out0 : List ByteArray) =>
    bif decide ((0 : Int) ≤ from_0) && decide (from_0 ≤ ((ByteArray.size s1 : Nat) : Int)) then
      bif decide (List.length out0 + List.length [ByteArray.extract s1 (Int.toNat from_0) (ByteArray.size s1)] ≤ maxGrow) then
        K (out0 ++ [ByteArray.extract s1 (Int.toNat from_0) (ByteArray.size s1)])
      else
        none
    else
      none) k s b (0 : Int) (0 : Int) []
/-- spec.l1Read -/
def spec_l1Read_l0 (k : Nat) {R : Type} (K0 : Int → Option R) (K1 : Int → Option R) : Nat → ByteArray → Int → Int → Option R
  | 0, _, _, _ => none
  | m + 1, s0, n_0, i =>
    bif decide (i < ((ByteArray.size s0 : Nat) : Int)) then
      bif decide ((0 : Int) ≤ i) && decide (i < ((ByteArray.size s0 : Nat) : Int)) then
        bif decide (byteAt s0 i < (48 : Int)) then
          K1 (-1 : Int)
        else
          bif decide ((0 : Int) ≤ i) && decide (i < ((ByteArray.size s0 : Nat) : Int)) then
            bif decide ((57 : Int) < byteAt s0 i) then
              K1 (-1 : Int)
            else
              bif decide ((0 : Int) ≤ i) && decide (i < ((ByteArray.size s0 : Nat) : Int)) then
                spec_l1Read_l0 k K0 K1 m s0 (IntKind.wrap .i64 ((IntKind.wrap .i64 ((10 : Int) * n_0)) + (IntKind.wrap .i64 (IntKind.wrap .u8 ((byteAt s0 i) - (48 : Int)))))) (IntKind.wrap .i64 (i + (1 : Int)))
              else
                none
          else
            none
      else
        none
    else
      K0 n_0
def spec_l1Read (k : Nat) (s : ByteArray) {R : Type} (K : Int → Option R) : Option R :=
  spec_l1In ((ByteArray.size s : Nat) : Int) (1 : Int) (6 : Int) fun (r : Bool) =>
  bif !r then
    K (-1 : Int)
  else
    bif decide ((0 : Int) < ((ByteArray.size s : Nat) : Int)) then
      bif decide (byteAt s (0 : Int) = (48 : Int)) then
        bif decide ((1 : Int) < ((ByteArray.size s : Nat) : Int)) then
          K (-1 : Int)
        else
          spec_l1Read_l0 k (fun (n_1 : Int) =>
            K n_1) (fun (x : Int) =>
            K x) k s (0 : Int) (0 : Int)
      else
        spec_l1Read_l0 k (fun (n_2 : Int) =>
          K n_2) (fun (x0 : Int) =>
          K x0) k s (0 : Int) (0 : Int)
    else
      none
end Go.Lg
set_option linter.unusedVariables false
namespace Go.Lg
open Go Go.Ev
/-- spec.kOdds -/
def spec_kOdds_l0 (k : Nat) {R : Type} (K0 : Int → Int → (List (Int × Int)) → (List (List Int)) → (List (Int × Int)) → (List (List Int)) → Option R) (K1 : Bool → Int → (List (Int × Int)) → (List (List Int)) → Option R) : Nat → (List ByteArray) → Int → Int → Int → Int → (List (Int × Int)) → (List (List Int)) → (List (Int × Int)) → (List (List Int)) → Option R
  | 0, _, _, _, _, _, _, _, _, _ => none
  | m + 1, x, x0, x1, x2, t, b, b0, b1, b2 =>
    bif decide (x1 < x0) then
      bif decide ((0 : Int) ≤ x1) && decide (x1 < ((List.length x : Nat) : Int)) then
        spec_l1Split k (List.getD x (Int.toNat x1) (⟨#[]⟩ : ByteArray)) (47 : Int) fun (r0 : List ByteArray) =>
        bif !(decide (((List.length r0 : Nat) : Int) = (2 : Int))) then
          K1 false t b1 b2
        else
          bif decide ((0 : Int) < ((List.length r0 : Nat) : Int)) then
            spec_l1Read k (List.getD r0 0 (⟨#[]⟩ : ByteArray)) fun (r1 : Int) =>
            bif decide ((1 : Int) < ((List.length r0 : Nat) : Int)) then
              spec_l1Read k (List.getD r0 1 (⟨#[]⟩ : ByteArray)) fun (r2 : Int) =>
              bif decide (List.length b1 + List.length [(r1, r2)] ≤ maxGrow) then
                spec_kOdds_l0 k K0 K1 m x x0 (IntKind.wrap .i64 (x1 + (1 : Int))) x2 t b b0 (b1 ++ [(r1, r2)]) b2
              else
                none
            else
              none
          else
            none
      else
        none
    else
      K0 x2 t b b0 b1 b2
def spec_kOdds (k : Nat) (words : List ByteArray) {R : Type} (K : ((List (Int × Int)) × Int × List (List Int)) → Bool → Option R) : Option R :=
  bif decide (((List.length words : Nat) : Int) < (4 : Int)) then
    K ([], ((0 : Int), [])) false
  else
    bif decide ((0 : Int) ≤ IntKind.wrap .i64 (((List.length words : Nat) : Int) - (1 : Int))) && decide (IntKind.wrap .i64 (((List.length words : Nat) : Int) - (1 : Int)) < ((List.length words : Nat) : Int)) then
      spec_l1Read k (List.getD words (Int.toNat (IntKind.wrap .i64 (((List.length words : Nat) : Int) - (1 : Int)))) (⟨#[]⟩ : ByteArray)) fun (r : Int) =>
      bif decide ((1 : Int) ≤ IntKind.wrap .i64 (((List.length words : Nat) : Int) - (2 : Int))) && decide (IntKind.wrap .i64 (((List.length words : Nat) : Int) - (2 : Int)) ≤ ((List.length words : Nat) : Int)) then
        spec_kOdds_l0 k (fun (x3 : Int) (t0 : Int) (b3 : List (Int × Int)) (b4 : List (List Int)) (b5 : List (Int × Int)) (b6 : List (List Int)) =>
          K (b5, (t0, b6)) true) (fun (x4 : Bool) (x5 : Int) (b7 : List (Int × Int)) (b8 : List (List Int)) =>
          K (b7, (x5, b8)) x4) k (List.drop 1 (List.take (Int.toNat (IntKind.wrap .i64 (((List.length words : Nat) : Int) - (2 : Int)))) words)) ((List.length (List.drop 1 (List.take (Int.toNat (IntKind.wrap .i64 (((List.length words : Nat) : Int) - (2 : Int)))) words)) : Nat) : Int) (0 : Int) (0 : Int) r [] [] [] []
      else
        none
    else
      none
/-- spec.kParse -/
def spec_kParse_l0 (k : Nat) {R : Type} (K0 : ByteArray → (List ByteArray) → Int → Int → Int → Int → (List Int) → (List (Int × Int)) → (List (List Int)) → (List (Int × Int)) → (List (List Int)) → Option R) : Nat → ByteArray → ByteArray → Int → (List ByteArray) → Int → Int → Int → Int → (List Int) → (List (Int × Int)) → (List (List Int)) → (List (Int × Int)) → (List (List Int)) → Option R
  | 0, _, _, _, _, _, _, _, _, _, _, _, _, _ => none
  | m + 1, x6, x7, x8, x9, x10, x11, x12, x13, x14, b3, b4, b5, b6 =>
    bif decide (x8 < ((ByteArray.size x7 : Nat) : Int)) then
      bif decide ((0 : Int) ≤ x8) && decide (x8 < ((ByteArray.size x7 : Nat) : Int)) then
        bif decide (List.length x14 + List.length [IntKind.wrap .i64 ((IntKind.wrap .i64 (byteAt x7 x8)) - (48 : Int))] ≤ maxGrow) then
          spec_kParse_l0 k K0 m x6 x7 (IntKind.wrap .i64 (x8 + (1 : Int))) x9 x10 x11 x12 x13 (x14 ++ [IntKind.wrap .i64 ((IntKind.wrap .i64 (byteAt x7 x8)) - (48 : Int))]) b3 b4 b5 b6
        else
          none
      else
        none
    else
      K0 x6 x9 x10 x11 x12 x13 x14 b3 b4 b5 b6
def spec_kParse_l1 (k : Nat) {R : Type} (K0 : ByteArray → Int → Int → (List (Int × Int)) → (List (List Int)) → (List (Int × Int)) → (List (List Int)) → Option R) : Nat → ByteArray → (List ByteArray) → Int → Int → Int → Int → (List (Int × Int)) → (List (List Int)) → (List (Int × Int)) → (List (List Int)) → Option R
  | 0, _, _, _, _, _, _, _, _, _, _ => none
  | m + 1, x0, x1, x2, x3, x4, x5, b, b0, b1, b2 =>
    bif decide (x3 < x2) then
      bif decide ((0 : Int) ≤ x3) && decide (x3 < ((List.length x1 : Nat) : Int)) then
        spec_kParse_l0 k (fun (x15 : ByteArray) (x16 : List ByteArray) (x17 : Int) (x18 : Int) (x19 : Int) (x20 : Int) (x21 : List Int) (b7 : List (Int × Int)) (b8 : List (List Int)) (b9 : List (Int × Int)) (b10 : List (List Int)) =>
          bif decide (List.length b10 + List.length [x21] ≤ maxGrow) then
            spec_kParse_l1 k K0 m x15 x16 x17 (IntKind.wrap .i64 (x18 + (1 : Int))) x19 x20 b7 b8 b9 (b10 ++ [x21])
          else
            none) k x0 (List.getD x1 (Int.toNat x3) (⟨#[]⟩ : ByteArray)) (0 : Int) x1 x2 x3 x4 x5 [] b b0 b1 b2
      else
        none
    else
      K0 x0 x4 x5 b b0 b1 b2
def spec_kParse (k : Nat) (x : ByteArray) {R : Type} (K : ((List (Int × Int)) × Int × List (List Int)) → Bool → Option R) : Option R :=
  spec_l1Split k x (10 : Int) fun (r : List ByteArray) =>
  bif decide ((0 : Int) < ((List.length r : Nat) : Int)) then
    spec_l1Split k (List.getD r 0 (⟨#[]⟩ : ByteArray)) (32 : Int) fun (r0 : List ByteArray) =>
    spec_kOdds k r0 fun (r1 : (List (Int × Int)) × Int × List (List Int)) (r2 : Bool) =>
    bif !r2 then
      K ([], ((0 : Int), [])) false
    else
      bif decide ((1 : Int) ≤ ((List.length r : Nat) : Int)) then
        spec_kParse_l1 k (fun (x22 : ByteArray) (x23 : Int) (x24 : Int) (b11 : List (Int × Int)) (b12 : List (List Int)) (b13 : List (Int × Int)) (b14 : List (List Int)) =>
          spec_l1Most (IntKind.wrap .i64 (((List.length b14 : Nat) : Int) - (1 : Int))) (0 : Int) fun (r3 : Int) =>
          bif decide ((0 : Int) ≤ r3) && decide (r3 ≤ ((List.length b14 : Nat) : Int)) then
            spec_kGood k (b13, (x24, List.drop 0 (List.take (Int.toNat r3) b14))) fun (r4 : Bool) =>
            bif !r4 then
              K ([], ((0 : Int), [])) false
            else
              spec_kText k (b13, (x24, List.drop 0 (List.take (Int.toNat r3) b14))) fun (r5 : ByteArray) =>
              bif !(ByteArray.toList r5 == ByteArray.toList x22) then
                K ([], ((0 : Int), [])) false
              else
                K (b13, (x24, List.drop 0 (List.take (Int.toNat r3) b14))) true
          else
            none) k x (List.drop 1 (List.take (List.length r) r)) ((List.length (List.drop 1 (List.take (List.length r) r)) : Nat) : Int) (0 : Int) (0 : Int) r1.2.1 [] [] r1.1 r1.2.2
      else
        none
  else
    none
/-- spec.ParseTable -/
def spec_ParseTable (k : Nat) (s : ByteArray) {R : Type} (K : ((List (Int × Int)) × Int × List (List Int)) → Bool → Option R) : Option R :=
  spec_kParse k s fun (r : (List (Int × Int)) × Int × List (List Int)) (r0 : Bool) =>
  K r r0
/-- impl.ParseTable -/
def impl_ParseTable_l0 (k : Nat) {R : Type} (K0 : ByteArray → (List ByteArray) → (List ByteArray) → Int → Int → (List (Int × Int)) → (List (List Int)) → (List (Int × Int)) → (List (List Int)) → Option R) (K1 : Bool → Int → Option R) : Nat → ByteArray → (List ByteArray) → (List ByteArray) → (List ByteArray) → Int → Int → Int → Int → (List (Int × Int)) → (List (List Int)) → (List (Int × Int)) → (List (List Int)) → Option R
  | 0, _, _, _, _, _, _, _, _, _, _, _, _ => none
  | m + 1, x0, x1, x2, x3, x4, x5, x6, x7, b, b0, b1, b2 =>
    bif decide (x5 < x4) then
      bif decide ((0 : Int) ≤ x5) && decide (x5 < ((List.length x3 : Nat) : Int)) then
        strings_Cut (List.getD x3 (Int.toNat x5) (⟨#[]⟩ : ByteArray)) (⟨#[47]⟩ : ByteArray) fun (r1 : ByteArray) (r2 : ByteArray) (r3 : Bool) =>
        impl_readInt r1 fun (r4 : Int) (r5 : Bool) =>
        impl_readInt r2 fun (r6 : Int) (r7 : Bool) =>
        bif !r5 then
          K1 false (0 : Int)
        else
          bif !r7 then
            K1 false (0 : Int)
          else
            bif decide (List.length b1 + List.length [(r4, r6)] ≤ maxGrow) then
              impl_ParseTable_l0 k K0 K1 m x0 x1 x2 x3 x4 (IntKind.wrap .i64 (x5 + (1 : Int))) x6 x7 b b0 (b1 ++ [(r4, r6)]) b2
            else
              none
      else
        none
    else
      K0 x0 x1 x2 x6 x7 b b0 b1 b2
def impl_ParseTable_l1 (k : Nat) {R : Type} (K0 : ByteArray → (List ByteArray) → Int → Int → Int → Int → (List Int) → (List (Int × Int)) → (List (List Int)) → (List (Int × Int)) → (List (List Int)) → Option R) : Nat → ByteArray → ByteArray → Int → (List ByteArray) → Int → Int → Int → Int → (List Int) → (List (Int × Int)) → (List (List Int)) → (List (Int × Int)) → (List (List Int)) → Option R
  | 0, _, _, _, _, _, _, _, _, _, _, _, _, _ => none
  | m + 1, x19, x20, x21, x22, x23, x24, x25, x26, x27, b11, b12, b13, b14 =>
    bif decide (x21 < ((ByteArray.size x20 : Nat) : Int)) then
      bif decide ((0 : Int) ≤ x21) && decide (x21 < ((ByteArray.size x20 : Nat) : Int)) then
        bif decide (List.length x27 + List.length [IntKind.wrap .i64 ((IntKind.wrap .i64 (byteAt x20 x21)) - (48 : Int))] ≤ maxGrow) then
          impl_ParseTable_l1 k K0 m x19 x20 (IntKind.wrap .i64 (x21 + (1 : Int))) x22 x23 x24 x25 x26 (x27 ++ [IntKind.wrap .i64 ((IntKind.wrap .i64 (byteAt x20 x21)) - (48 : Int))]) b11 b12 b13 b14
        else
          none
      else
        none
    else
      K0 x19 x22 x23 x24 x25 x26 x27 b11 b12 b13 b14
def impl_ParseTable_l2 (k : Nat) {R : Type} (K0 : ByteArray → Int → Int → (List (Int × Int)) → (List (List Int)) → (List (Int × Int)) → (List (List Int)) → Option R) : Nat → ByteArray → (List ByteArray) → Int → Int → Int → Int → (List (Int × Int)) → (List (List Int)) → (List (Int × Int)) → (List (List Int)) → Option R
  | 0, _, _, _, _, _, _, _, _, _, _ => none
  | m + 1, x13, x14, x15, x16, x17, x18, b7, b8, b9, b10 =>
    bif decide (x16 < x15) then
      bif decide ((0 : Int) ≤ x16) && decide (x16 < ((List.length x14 : Nat) : Int)) then
        impl_ParseTable_l1 k (fun (x28 : ByteArray) (x29 : List ByteArray) (x30 : Int) (x31 : Int) (x32 : Int) (x33 : Int) (x34 : List Int) (b15 : List (Int × Int)) (b16 : List (List Int)) (b17 : List (Int × Int)) (b18 : List (List Int)) =>
          bif decide (List.length b18 + List.length [x34] ≤ maxGrow) then
            impl_ParseTable_l2 k K0 m x28 x29 x30 (IntKind.wrap .i64 (x31 + (1 : Int))) x32 x33 b15 b16 b17 (b18 ++ [x34])
          else
            none) k x13 (List.getD x14 (Int.toNat x16) (⟨#[]⟩ : ByteArray)) (0 : Int) x14 x15 x16 x17 x18 [] b7 b8 b9 b10
      else
        none
    else
      K0 x13 x17 x18 b7 b8 b9 b10
def impl_ParseTable (k : Nat) (x : ByteArray) {R : Type} (K : ((List (Int × Int)) × Int × List (List Int)) → Bool → Option R) : Option R :=
  strings_Split x (⟨#[10]⟩ : ByteArray) fun (r : List ByteArray) =>
  bif decide ((0 : Int) < ((List.length r : Nat) : Int)) then
    strings_Split (List.getD r 0 (⟨#[]⟩ : ByteArray)) (⟨#[32]⟩ : ByteArray) fun (r0 : List ByteArray) =>
    bif decide (((List.length r0 : Nat) : Int) < (4 : Int)) then
      K ([], ((0 : Int), [])) false
    else
      bif decide (((List.length r : Nat) : Int) < (2 : Int)) then
        K ([], ((0 : Int), [])) false
      else
        bif decide ((1 : Int) ≤ IntKind.wrap .i64 (((List.length r0 : Nat) : Int) - (2 : Int))) && decide (IntKind.wrap .i64 (((List.length r0 : Nat) : Int) - (2 : Int)) ≤ ((List.length r0 : Nat) : Int)) then
          impl_ParseTable_l0 k (fun (x8 : ByteArray) (x9 : List ByteArray) (x10 : List ByteArray) (x11 : Int) (x12 : Int) (b3 : List (Int × Int)) (b4 : List (List Int)) (b5 : List (Int × Int)) (b6 : List (List Int)) =>
            bif decide ((0 : Int) ≤ IntKind.wrap .i64 (((List.length x10 : Nat) : Int) - (1 : Int))) && decide (IntKind.wrap .i64 (((List.length x10 : Nat) : Int) - (1 : Int)) < ((List.length x10 : Nat) : Int)) then
              impl_readInt (List.getD x10 (Int.toNat (IntKind.wrap .i64 (((List.length x10 : Nat) : Int) - (1 : Int)))) (⟨#[]⟩ : ByteArray)) fun (r8 : Int) (r9 : Bool) =>
              bif decide ((1 : Int) ≤ IntKind.wrap .i64 (((List.length x9 : Nat) : Int) - (1 : Int))) && decide (IntKind.wrap .i64 (((List.length x9 : Nat) : Int) - (1 : Int)) ≤ ((List.length x9 : Nat) : Int)) then
                impl_ParseTable_l2 k (fun (x35 : ByteArray) (x36 : Int) (x37 : Int) (b19 : List (Int × Int)) (b20 : List (List Int)) (b21 : List (Int × Int)) (b22 : List (List Int)) =>
                  impl_IsCombatTable k (b21, (x37, b22)) fun (r10 : Bool) =>
                  bif !r10 then
                    K ([], ((0 : Int), [])) false
                  else
                    impl_tableText k (b21, (x37, b22)) fun (r11 : ByteArray) =>
                    bif !(ByteArray.toList r11 == ByteArray.toList x35) then
                      K ([], ((0 : Int), [])) false
                    else
                      K (b21, (x37, b22)) true) k x8 (List.drop 1 (List.take (Int.toNat (IntKind.wrap .i64 (((List.length x9 : Nat) : Int) - (1 : Int)))) x9)) ((List.length (List.drop 1 (List.take (Int.toNat (IntKind.wrap .i64 (((List.length x9 : Nat) : Int) - (1 : Int)))) x9)) : Nat) : Int) (0 : Int) x11 r8 b3 b4 b5 b6
              else
                none
            else
              none) (fun (x38 : Bool) (x39 : Int) =>
            K ([], (x39, [])) x38) k x r r0 (List.drop 1 (List.take (Int.toNat (IntKind.wrap .i64 (((List.length r0 : Nat) : Int) - (2 : Int)))) r0)) ((List.length (List.drop 1 (List.take (Int.toNat (IntKind.wrap .i64 (((List.length r0 : Nat) : Int) - (2 : Int)))) r0)) : Nat) : Int) (0 : Int) (0 : Int) (0 : Int) [] [] [] []
        else
          none
  else
    none
/-- laws.heldOddsS -/
def laws_heldOddsS_l0 (k : Nat) {R : Type} (K0 : Int → Option R) (K1 : Int → Option R) : Nat → (List (Int × Int)) → Int → Int → Option R
  | 0, _, _, _ => none
  | m + 1, a0, k_0, i =>
    bif decide (i < ((List.length a0 : Nat) : Int)) then
      bif decide ((0 : Int) ≤ i) && decide (i < ((List.length a0 : Nat) : Int)) then
        bif !(decide ((List.getD a0 (Int.toNat i) ((0 : Int), (0 : Int))).1 = k_0)) then
          K1 (-1 : Int)
        else
          bif decide ((0 : Int) ≤ i) && decide (i < ((List.length a0 : Nat) : Int)) then
            bif !(decide ((List.getD a0 (Int.toNat i) ((0 : Int), (0 : Int))).2 = IntKind.wrap .i64 (k_0 + (1 : Int)))) then
              K1 (-1 : Int)
            else
              laws_heldOddsS_l0 k K0 K1 m a0 (IntKind.wrap .i64 ((IntKind.wrap .i64 (k_0 + (1 : Int))) + (1 : Int))) (IntKind.wrap .i64 (i + (1 : Int)))
          else
            none
      else
        none
    else
      K0 k_0
def laws_heldOddsS (k : Nat) (a : List (Int × Int)) (k_ : Int) {R : Type} (K : Int → Option R) : Option R :=
  laws_heldOddsS_l0 k (fun (k_1 : Int) =>
    K k_1) (fun (x : Int) =>
    K x) k a k_ (0 : Int)
/-- laws.heldCombatTable -/
def laws_heldCombatTable (k : Nat) (a : (List (Int × Int)) × Int × List (List Int)) (k_ : Int) {R : Type} (K : Int → Option R) : Option R :=
  laws_heldOddsS k a.1 k_ fun (r : Int) =>
  bif decide (r < (0 : Int)) then
    K (-1 : Int)
  else
    laws_heldIntSS k a.2.2 r fun (r0 : Int) =>
    bif decide (r0 < (0 : Int)) then
      K (-1 : Int)
    else
      K r0
/-- laws.FnExactParseTable -/
def laws_FnExactParseTable (k : Nat) (x : ByteArray) {R : Type} (K : Bool → Option R) : Option R :=
  bif decide ((1048576 : Int) < ((ByteArray.size x : Nat) : Int)) then
    K true
  else
    spec_ParseTable k x fun (r : (List (Int × Int)) × Int × List (List Int)) (r0 : Bool) =>
    impl_ParseTable k x fun (r1 : (List (Int × Int)) × Int × List (List Int)) (r2 : Bool) =>
    laws_eqCombatTable k r1 r fun (r3 : Bool) =>
    bif !r3 then
      K false
    else
      bif !(r2 == r0) then
        K false
      else
        laws_markCombatTable_in k r1 (1 : Int) fun (t : (List (Int × Int)) × Int × List (List Int)) (r4 : Int) =>
        laws_heldCombatTable k (t.1, (r1.2.1, t.2.2)) (1 : Int) fun (r5 : Int) =>
        bif decide (r5 < (0 : Int)) then
          K false
        else
          bif !(decide (r5 = r4)) then
            K false
          else
            impl_ParseTable k x fun (r6 : (List (Int × Int)) × Int × List (List Int)) (r7 : Bool) =>
            laws_eqCombatTable k r6 r fun (r8 : Bool) =>
            bif !r8 then
              K false
            else
              bif !(r7 == r0) then
                K false
              else
                laws_heldCombatTable k (t.1, (r1.2.1, t.2.2)) (1 : Int) fun (r9 : Int) =>
                bif decide (r9 < (0 : Int)) then
                  K false
                else
                  bif !(decide (r9 = r4)) then
                    K false
                  else
                    K true
end Go.Lg
/- Library functions met by their contracts. -/
namespace Go.Ev
open Go Go.RowKit Go.Lg
set_option linter.unusedVariables false
theorem cond_nat {R : Type} {b : Bool} {l : List Res} (K : List Res → Option R) : (bif b then K l else none) = Option.bind (bif b then some l else none) K := by cases b <;> rfl
theorem grab_c {s l : Sh} {vs : List AV} {x : (Sh.c s l).den} (h : grab (.c s l) vs = some x) : vs = give s x.1 ++ give l x.2 := grab_give h
/-- A library function: its contract, told of typed values. -/
theorem lib_sound {P : Program} {glob : Nat → AV} {n : Nat} {ss : Sh} {F : FArg ss} (hcall : callable P n = true) (hnat : ∀ {R : Type} (x : ss.den) (K : List Res → Option R), F x K = (F x some).bind K)
    (hok : ∀ {R : Type} (x : ss.den) (K : List Res → Option R) (r : R), F x K = some r → CallsK P glob n (give ss x) K r) : SoundF P glob n (ftab ss F) := by
  refine ⟨hcall, fun args K r h => ?_, fun args K => ?_⟩
  · cases hg : grab ss args with
    | none => rw [ftab_none hg K] at h; cases h
    | some x =>
      rw [ftab_some hg K] at h
      rw [grab_give hg]
      exact hok x K r h
  · cases hg : grab ss args with
    | none => rw [ftab_none hg K, ftab_none hg some]; rfl
    | some x => rw [ftab_some hg K, ftab_some hg some]; exact hnat x K
theorem res_str {w w' : World} {G : Nat → Prop} {s : ByteArray} : ResRep w w' G [⟨.str, s, true⟩] (.string s) :=
  ⟨[.string s], [], rfl, List.nodup_nil, (fun b hb => by cases hb), .string s, [], [], [], rfl, rfl, rfl, ⟨⟨rfl, rfl⟩, (fun h => by cases h), fun _ => rfl⟩, rfl, rfl⟩
theorem tab_of {P : Program} {w : World} {G : Nat → Prop} {name : String} {g : Nat} {cs : List Value} (hg : P.globalNamed name = some g) (h : AVRep (argMem w G) (.tab cs) (.pointer (some ⟨g, 0, none⟩))) : w.var? P name = some cs.toArray := by
  obtain ⟨p, t, fr, e, _, _, _, h4⟩ := h
  injection e with e; injection e with e; subst e
  have h4 : w.heap[g]? = some (.cells cs.toArray t fr) := h4
  simp only [World.var?, hg, Option.bind_some, h4]
theorem itoa_sound {P : Program} {glob : Nat → AV} {f g : Nat} (hcall : callable P f = true) (hg : P.globalNamed "internal/strconv.uint64pow10" = some g) (hglob : glob g = .tab (Lib.pow10Tab.map fun z => Value.int .u64 z))
    (h : ∀ (n : Int), -9223372036854775808 ≤ n → n ≤ 9223372036854775807 → ∀ (w : World), Lib.TabIs P w "internal/strconv.uint64pow10" .u64 Lib.pow10Tab → Calls P f #[.int .i64 n] w fun e w' => e = .returned (.string ⟨(Lib.itoa n).toArray⟩) ∧ ∃ k os, w' = Go.Sort.grow (w.drewN k) os) :
    SoundF P glob f (ftab (.c (.val (.int .i64)) .e) fun x K => strconv_Itoa x.1 fun r => K [⟨.str, r, true⟩]) := by
  refine lib_sound hcall (fun x K => cond_nat K) fun {R} x K r hr => ?_
  obtain ⟨n0, u⟩ := x
  obtain ⟨n, hn⟩ : ∃ n : Int, n = n0 := ⟨n0, rfl⟩
  subst hn
  intro w vals G hG hargs hgl
  obtain ⟨v, vs, rfl, hv, hvs⟩ := hargs
  have hv : v = .int .i64 n := by
    have hv : Rep w G (.int .i64) n [v] := hv
    exact (List.cons.inj hv).1
  have hvs : vs = [] := hvs
  subst hv; subst hvs
  have hr : (bif decide ((-9223372036854775808 : Int) ≤ (n : Int)) && decide ((n : Int) ≤ (9223372036854775807 : Int)) then K [⟨.str, itoaB n, true⟩] else none) = some r := hr
  cases hb : (decide ((-9223372036854775808 : Int) ≤ (n : Int)) && decide ((n : Int) ≤ (9223372036854775807 : Int))) with
  | false => rw [hb] at hr; cases hr
  | true =>
    rw [hb] at hr
    simp only [Bool.and_eq_true, decide_eq_true_eq] at hb
    have hgt := hgl g
    rw [hglob] at hgt
    refine (h n hb.1 hb.2 w (tab_of hg hgt)).mono fun e w' ⟨he, k, os, hw⟩ => ?_
    subst hw
    exact ⟨_, _, hr, he, Lib.below_grow w.heap.size w (Nat.le_refl _) k os, res_str⟩
theorem strs_cells {w : World} {G : Nat → Prop} {xs : List ByteArray} {v : Value} (h : Rep w G (.sl .str) xs [v]) : ∃ ad c, v = .slice ad xs.length c ∧ xs.length ≤ c ∧ (xs ≠ [] → ∃ bk o, ad = some ⟨bk, o, none⟩ ∧ G bk ∧ ∀ (j : Nat) x, xs[j]? = some x → w.cell? ⟨bk, o + j, none⟩ = some (.string x)) := by
  obtain ⟨ad, c, e, h1, h2⟩ := h
  refine ⟨ad, c, (List.cons.inj e).1, h1, fun hne => ?_⟩
  obtain ⟨x0, r, rfl⟩ : ∃ x r, xs = x :: r := by
    cases xs with
    | nil => exact absurd rfl hne
    | cons x r => exact ⟨x, r, rfl⟩
  obtain ⟨p, cx, hp, hA, hs, _, _⟩ := h2 0 x0 rfl
  obtain ⟨bk, o, sp⟩ := p
  have hs : sp = none := hs
  subst hs
  refine ⟨bk, o, hp, hA, fun j x hj => ?_⟩
  obtain ⟨q, cx, hq, _, _, hr, hc⟩ := h2 j x hj
  rw [hp] at hq
  injection hq with hq
  subst hq
  have hr : cx = [.string x] := hr
  subst hr
  have := hc 0 (.string x) rfl
  simpa [Ty.size] using this
theorem join_sound {P : Program} {glob : Nat → AV} {f : Nat} (hcall : callable P f = true)
    (h0 : ∀ (a : Option Addr) (c : Nat) (sep : ByteArray) (w : World), Calls P f #[.slice a 0 c, .string sep] w fun e w' => e = .returned (.string ⟨#[]⟩) ∧ w' = w)
    (h : ∀ (bk o c : Nat) (xs : List ByteArray) (sep : ByteArray) (w : World), (∀ (j : Nat) x, xs[j]? = some x → w.cell? ⟨bk, o + j, none⟩ = some (.string x)) → bk < w.heap.size → xs.length ≤ 140737488355328 → xs.length ≤ c → (Lib.join (xs.map (·.data.toList)) sep.data.toList).length ≤ 140737488355328 →
      Calls P f #[.slice (some ⟨bk, o, none⟩) xs.length c, .string sep] w fun e w' => e = .returned (.string ⟨(Lib.join (xs.map (·.data.toList)) sep.data.toList).toArray⟩) ∧ Below w.heap.size w w') :
    SoundF P glob f (ftab (.c (.val (.sl .str)) (.c (.val .str) .e)) fun x K => strings_Join x.1 x.2.1 fun r => K [⟨.str, r, true⟩]) := by
  refine lib_sound hcall (fun x K => cond_nat K) fun {R} x K r hr => ?_
  obtain ⟨xs, sep, u⟩ := x
  intro w vals G hG hargs hgl
  obtain ⟨v, vs, rfl, hv, v2, vs2, rfl, hv2, hvs⟩ := hargs
  have hv2 : v2 = .string sep := by
    have hv2 : Rep w G .str sep [v2] := hv2
    exact (List.cons.inj hv2).1
  have hvs : vs2 = [] := hvs
  subst hv2; subst hvs
  obtain ⟨ad, c, rfl, hc, hcells⟩ := strs_cells (show Rep w G (.sl .str) xs [v] from hv)
  have hr : (bif decide (List.length xs ≤ 140737488355328) && decide ((Lib.join (xs.map fun x => x.data.toList) sep.data.toList).length ≤ 140737488355328) then K [⟨.str, joinB xs sep, true⟩] else none) = some r := hr
  cases hb : (decide (List.length xs ≤ 140737488355328) && decide ((Lib.join (xs.map fun x => x.data.toList) sep.data.toList).length ≤ 140737488355328)) with
  | false => rw [hb] at hr; cases hr
  | true =>
    rw [hb] at hr
    simp only [Bool.and_eq_true, decide_eq_true_eq] at hb
    cases xs with
    | nil =>
      refine (h0 ad c sep w).mono fun e w' ⟨he, hw⟩ => ?_
      subst hw
      exact ⟨_, _, hr, he, Below.refl _ _, res_str⟩
    | cons x0 r0 =>
      obtain ⟨bk, o, rfl, hA, hj⟩ := hcells (by intro e; cases e)
      refine (h bk o c (x0 :: r0) sep w hj (hG bk hA) hb.1 hc hb.2).mono fun e w' ⟨he, hw⟩ => ?_
      exact ⟨_, _, hr, he, hw, res_str⟩
end Go.Ev
/- strings.Split by its contract. -/
namespace Go.Ev
open Go Go.RowKit Go.Lg
set_option linter.unusedVariables false
theorem tab_cell {w : World} {G : Nat → Prop} {g : Nat} {u : Value} (h : AVRep (argMem w G) (.tab [u]) (.pointer (some ⟨g, 0, none⟩))) : w.cell? ⟨g, 0, none⟩ = some u := by
  obtain ⟨p, t, fr, e, _, _, _, h4⟩ := h
  injection e with e; injection e with e; subst e
  have h4 : w.heap[g]? = some (.cells #[u] t fr) := h4
  simp [World.cell?, h4]
theorem res_pieces {w : World} {G : Nat → Prop} {xs : List ByteArray} {t : TypeId} : ResRep w (w.alloc (.cells (xs.map Value.string).toArray t)) G [⟨.sl .str, xs, true⟩] (.slice (some ⟨w.heap.size, 0, none⟩) xs.length xs.length) := by
  refine ⟨[_], [w.heap.size], rfl, by simp, fun b hb => ?_, _, [], [w.heap.size], [], rfl, rfl, rfl, ?_, rfl, rfl⟩
  · rw [List.mem_singleton] at hb
    subst hb
    exact ⟨Nat.le_refl _, by simp⟩
  · refine ⟨(OwnD_row rfl).2 ?_, (fun h => by cases h), fun _ => rfl⟩
    refine ⟨_, xs.length, rfl, Nat.le_refl _, .inr ⟨w.heap.size, (xs.map Value.string).toArray, t, rfl, rfl, ?_, ?_, fun i x hi => ?_⟩⟩
    · exact Go.heap_alloc_new w _
    · simp [Ty.size]
    · have hi : xs[i]? = some x := hi
      obtain ⟨h1, h2⟩ := List.getElem?_eq_some_iff.1 hi
      show seg (xs.map Value.string).toArray.toList i 1 = [.string x]
      unfold seg
      rw [Nat.mul_one]
      have hlt : i < (xs.map Value.string).length := by simpa using h1
      rw [List.drop_eq_getElem_cons hlt]
      simp [h2]
theorem split_sound {P : Program} {glob : Nat → AV} {f g : Nat} {m : Int} {t : TypeId} (hcall : callable P f = true) (hglob : glob g = .tab [.int .i64 m])
    (h : ∀ (s sep : ByteArray) (m : Int) (w : World), s.size < 4294967281 → w.cell? ⟨g, 0, none⟩ = some (.int .i64 m) → 1 ≤ sep.size → Calls P f #[.string s, .string sep] w fun e w' =>
      e = .returned (.slice (some ⟨w.heap.size, 0, none⟩) (Lib.countB s sep + 1) (Lib.countB s sep + 1)) ∧ w' = w.alloc (.cells ((Lib.splitB sep 0 (Lib.countB s sep) s).map Value.string).toArray t)) :
    SoundF P glob f (ftab (.c (.val .str) (.c (.val .str) .e)) fun x K => strings_Split x.1 x.2.1 fun r => K [⟨.sl .str, r, true⟩]) := by
  refine lib_sound hcall (fun x K => cond_nat K) fun {R} x K r hr => ?_
  obtain ⟨s, sep, u⟩ := x
  intro w vals G hG hargs hgl
  obtain ⟨v, vs, rfl, hv, v2, vs2, rfl, hv2, hvs⟩ := hargs
  have hv : v = .string s := by
    have hv : Rep w G .str s [v] := hv
    exact (List.cons.inj hv).1
  have hv2 : v2 = .string sep := by
    have hv2 : Rep w G .str sep [v2] := hv2
    exact (List.cons.inj hv2).1
  have hvs : vs2 = [] := hvs
  subst hv; subst hv2; subst hvs
  have hr : (bif decide (ByteArray.size s < 4294967281) && decide (1 ≤ ByteArray.size sep) then K [⟨.sl .str, splitV s sep, true⟩] else none) = some r := hr
  cases hb : (decide (ByteArray.size s < 4294967281) && decide (1 ≤ ByteArray.size sep)) with
  | false => rw [hb] at hr; cases hr
  | true =>
    rw [hb] at hr
    simp only [Bool.and_eq_true, decide_eq_true_eq] at hb
    have hgt := hgl g
    rw [hglob] at hgt
    refine (h s sep m w hb.1 (tab_cell hgt) hb.2).mono fun e w' ⟨he, hw⟩ => ?_
    subst hw
    have hlen : (splitV s sep).length = Lib.countB s sep + 1 := Lib.splitB_all sep hb.2 0 _ s rfl
    rw [← hlen] at he
    exact ⟨_, _, hr, he, (Below.refl _ _).alloc (Nat.le_refl _) _, res_pieces⟩
theorem res_cut {w w' : World} {G : Nat → Prop} {a b : ByteArray} {c : Bool} : ResRep w w' G [⟨.str, a, true⟩, ⟨.str, b, true⟩, ⟨.bool, c, true⟩] (.tuple #[.string a, .string b, .bool c]) :=
  ⟨[.string a, .string b, .bool c], [], rfl, List.nodup_nil, (fun b hb => by cases hb), _, _, [], [], rfl, rfl, rfl, ⟨⟨rfl, rfl⟩, (fun h => by cases h), fun _ => rfl⟩, _, _, [], [], rfl, rfl, rfl, ⟨⟨rfl, rfl⟩, (fun h => by cases h), fun _ => rfl⟩, _, _, [], [], rfl, rfl, rfl, ⟨⟨rfl, rfl⟩, (fun h => by cases h), fun _ => rfl⟩, rfl, rfl⟩
theorem cut_sound {P : Program} {glob : Nat → AV} {f g : Nat} {m : Int} (hcall : callable P f = true) (hglob : glob g = .tab [.int .i64 m])
    (h : ∀ (s sep : ByteArray) (m : Int) (w : World), s.size < 4294967281 → w.cell? ⟨g, 0, none⟩ = some (.int .i64 m) → Calls P f #[.string s, .string sep] w fun e w' =>
      e = .returned (.tuple #[.string ⟨(Lib.cut s.data.toList sep.data.toList).1.toArray⟩, .string ⟨(Lib.cut s.data.toList sep.data.toList).2.1.toArray⟩, .bool (Lib.cut s.data.toList sep.data.toList).2.2]) ∧ ∃ n, w' = w.drewN n) :
    SoundF P glob f (ftab (.c (.val .str) (.c (.val .str) .e)) fun x K => strings_Cut x.1 x.2.1 fun a b c => K [⟨.str, a, true⟩, ⟨.str, b, true⟩, ⟨.bool, c, true⟩]) := by
  refine lib_sound hcall (fun x K => cond_nat K) fun {R} x K r hr => ?_
  obtain ⟨s, sep, u⟩ := x
  intro w vals G hG hargs hgl
  obtain ⟨v, vs, rfl, hv, v2, vs2, rfl, hv2, hvs⟩ := hargs
  have hv : v = .string s := by
    have hv : Rep w G .str s [v] := hv
    exact (List.cons.inj hv).1
  have hv2 : v2 = .string sep := by
    have hv2 : Rep w G .str sep [v2] := hv2
    exact (List.cons.inj hv2).1
  have hvs : vs2 = [] := hvs
  subst hv; subst hv2; subst hvs
  have hr : (bif decide (ByteArray.size s < 4294967281) then K [⟨.str, (cutV s sep).1, true⟩, ⟨.str, (cutV s sep).2.1, true⟩, ⟨.bool, (cutV s sep).2.2, true⟩] else none) = some r := hr
  cases hb : (decide (ByteArray.size s < 4294967281)) with
  | false => rw [hb] at hr; cases hr
  | true =>
    rw [hb] at hr
    simp only [decide_eq_true_eq] at hb
    have hgt := hgl g
    rw [hglob] at hgt
    refine (h s sep m w hb (tab_cell hgt)).mono fun e w' ⟨he, n, hw⟩ => ?_
    subst hw
    exact ⟨_, _, hr, he, ⟨rfl, rfl, rfl, Nat.le_refl _, fun _ _ => rfl⟩, res_cut⟩
def IsIf (v : Value) : Prop := v = .nilIface ∨ ∃ te pe, v = .iface te pe
abbrev IfV := { v : Value // IsIf v }
/-- What variables of the library hold that no statement lays down. -/
class GC where
  mx : Int
  e0 : IfV
  e1 : IfV
theorem res_int_bool {w w' : World} {G : Nat → Prop} {n : Int} {b : Bool} : ResRep w w' G [⟨.int .i64, n, true⟩, ⟨.bool, b, true⟩] (.tuple #[.int .i64 n, .bool b]) :=
  ⟨[.int .i64 n, .bool b], [], rfl, List.nodup_nil, (fun b hb => by cases hb), _, _, [], [], rfl, rfl, rfl, ⟨⟨rfl, rfl⟩, (fun h => by cases h), fun _ => rfl⟩, _, _, [], [], rfl, rfl, rfl, ⟨⟨rfl, rfl⟩, (fun h => by cases h), fun _ => rfl⟩, rfl, rfl⟩
theorem readInt_sound {P : Program} {glob : Nat → AV} {f g g0 g1 : Nat} {e0 e1 : IfV} (hcall : callable P f = true) (hg : P.globalNamed "internal/strconv.uint64pow10" = some g) (hglob : glob g = .tab (Lib.pow10Tab.map fun z => Value.int .u64 z)) (hglob0 : glob g0 = .tab [e0.1]) (hglob1 : glob g1 = .tab [e1.1])
    (h : ∀ (s : ByteArray), s.size ≤ 281474976710656 → ∀ (ev0 ev1 : Value) (w : World), w.cell? ⟨g0, 0, none⟩ = some ev0 → (ev0 = .nilIface ∨ ∃ te pe, ev0 = .iface te pe) → w.cell? ⟨g1, 0, none⟩ = some ev1 → (ev1 = .nilIface ∨ ∃ te pe, ev1 = .iface te pe) →
      Lib.TabIs P w "internal/strconv.uint64pow10" .u64 Lib.pow10Tab → Calls P f #[.string s] w fun e w' => e = .returned (.tuple #[.int .i64 (readIV s).1, .bool (readIV s).2]) ∧ Below w.heap.size w w') :
    SoundF P glob f (ftab (.c (.val .str) .e) fun x K => impl_readInt x.1 fun n b => K [⟨.int .i64, n, true⟩, ⟨.bool, b, true⟩]) := by
  refine lib_sound hcall (fun x K => cond_nat K) fun {R} x K r hr => ?_
  obtain ⟨s, u⟩ := x
  intro w vals G hG hargs hgl
  obtain ⟨v, vs, rfl, hv, hvs⟩ := hargs
  have hv : v = .string s := by
    have hv : Rep w G .str s [v] := hv
    exact (List.cons.inj hv).1
  have hvs : vs = [] := hvs
  subst hv; subst hvs
  have hr : (bif decide (ByteArray.size s ≤ 281474976710656) then K [⟨.int .i64, (readIV s).1, true⟩, ⟨.bool, (readIV s).2, true⟩] else none) = some r := hr
  cases hb : decide (ByteArray.size s ≤ 281474976710656) with
  | false => rw [hb] at hr; cases hr
  | true =>
    rw [hb] at hr
    have hgt := hgl g
    rw [hglob] at hgt
    have hgt0 := hgl g0
    rw [hglob0] at hgt0
    have hgt1 := hgl g1
    rw [hglob1] at hgt1
    refine (h s (of_decide_eq_true hb) e0.1 e1.1 w (tab_cell hgt0) e0.2 (tab_cell hgt1) e1.2 (tab_of hg hgt)).mono fun e w' ⟨he, hw⟩ => ?_
    exact ⟨_, _, hr, he, hw, res_int_bool⟩
end Go.Ev
/- Rows whose functions read variables of the library. -/
namespace Go.Ev
open Go Go.RowKit
theorem glob_int {P : Program} {W : World} {g t : Nat} {zero : Array Value} {k : IntKind} (h : W.ShapedOpen P) (hg : g < P.globals.size)
    (h0 : ((begin P (fun _ _ => 0) default).world.heap[g]?).bind Obj.row? = some (zero, t)) (hz : zero.size = 1)
    (hb : P.buildable t = true) (hc : P.cellTypes P.depth t = some [t]) (hu : P.underlying t = some (.int k)) :
    g < W.heap.size ∧ ∃ m, ∀ A : Nat → Prop, A g → ∃ (p : Addr) (t : Nat) (fr : Nat × Nat), (Value.pointer (some ⟨g, 0, none⟩)) = .pointer (some p) ∧ p.off = 0 ∧ p.spot = none ∧ A p.block ∧ W.heap[p.block]? = some (.cells [Value.int k m].toArray t fr) := by
  obtain ⟨m, hm⟩ := Go.Proofs.cell_of_shapedOpen_int h hg h0 hz hb hc hu
  obtain ⟨cs, hh, hs, _⟩ := h.1 g zero t hg h0
  refine ⟨(Array.getElem?_eq_some_iff.1 hh).1, m, fun A hA => ⟨⟨g, 0, none⟩, t, (0, 0), rfl, rfl, rfl, hA, ?_⟩⟩
  have h1 : cs.size = 1 := by omega
  have hc0 : cs[0]? = some (.int k m) := by simpa [World.cell?, hh] using hm
  have : cs = [Value.int k m].toArray := by
    apply Array.ext_getElem?
    intro i
    cases i with
    | zero => rw [hc0]; rfl
    | succ i => rw [Array.getElem?_eq_none (by omega)]; rfl
  rw [← this]; exact hh
theorem glob_iface {P : Program} {W : World} {t : Nat} {ms : Array (String × TypeId)} (hu : P.underlying t = some (.interface ms)) {laid : List (String × DataW Unit)} (h : laidMet P laid W) {n nm : String} {g : Nat} {d d0 : DataW Unit} (hg : P.globalNamed n = some g) (ht : (P.globals[g]?).map (·.type) = some t) {i : Nat} (hi : laid[i]? = some (n, d)) (hd : d = .iface nm d0) :
    g < W.heap.size ∧ ∃ e : IfV, ∀ A : Nat → Prop, A g → ∃ (p : Addr) (t : Nat) (fr : Nat × Nat), (Value.pointer (some ⟨g, 0, none⟩)) = .pointer (some p) ∧ p.off = 0 ∧ p.spot = none ∧ A p.block ∧ W.heap[p.block]? = some (.cells [e.1].toArray t fr) := by
  obtain ⟨ps, h, _, _⟩ := h
  obtain ⟨g', t', cs, fuel, p, h1, h2, h3, h4⟩ := laidVars_mem h i n d hi
  rw [hg] at h1; injection h1 with h1; subst h1
  rw [ht] at h2; injection h2 with h2; subst h2
  subst hd
  obtain ⟨_, u, v, hcs, _, _⟩ := iface_of_trod hu h4
  simp only [World.var?, hg, Option.bind_some] at h3
  split at h3
  · rename_i cs' t' fr heq
    injection h3 with h3
    subst h3
    refine ⟨(Array.getElem?_eq_some_iff.1 heq).1, ⟨.iface u v, .inr ⟨u, v, rfl⟩⟩, fun A hA => ⟨⟨g, 0, none⟩, t', fr, rfl, rfl, rfl, hA, ?_⟩⟩
    have : cs' = [Value.iface u v].toArray := by rw [← hcs]
    rw [← this]; exact heq
  · cases h3
end Go.Ev
namespace Go
variable {H : Type} {enc : TypeId × Value → H}
/-- The wrap, with what is laid and with the world's shape. -/
theorem returnsInHanded_laid_shaped {a : Assume} {C : Checked} {os : Os} {f : FuncId} {fn : Func} {s : ChangeSpec} {conds : List PathCond} {apart fresh handsOn again : Bool} {X : World → Array Value → Prop}
    (hX : ∀ (w w' : World) (args : Array Value), w.heap = w'.heap → X w args → X w' args)
    (own : ownKnob C.prog.godebug = none) (started : os.Started) (noInit : C.prog.inits.idxOf? f = none) (hfn : C.prog.funcs[f]? = some fn)
    (witness : ∃ (w : World) (tape : Tape) (i : Input), w.os = os ∧ (w.forCall tape i).Shaped C.prog ∧ i.vars = [] ∧ Input.okWide C.prog (w.forCall tape i) .any w.heap.size f i ∧
      ((s.pre enc C.prog fn conds apart (w.forCall tape i).memory i.args ∧ X (w.forCall tape i).memory i.args) ∧ sizedMet enc C.prog fn (OpenSpec.ofChange s) apart (w.forCall tape i).memory i.args) ∧ a.holds C.prog (lone (Frame.enter C.prog f i.args .normal) [] (w.forCall tape i)))
    (contract : ∀ (W : World) (base : Nat) (args : Array Value) (ds gs : List (DataW H)) (before : List MemPlace),
      (∀ (j : Nat) t v, fn.params[j]? = some t → args[j]? = some v → Value.okWide C.prog W .any base t v) →
      DataW.Whole enc C.prog fn.params.toList s.vars apart W args.toList ds gs before → X W args → W.ShapedOpen C.prog →
      Calls C.prog f args W fun e W' => ∃ v, e = .returned v ∧ s.post enc C.prog fn apart fresh handsOn again W args v W') :
    ReturnsInHanded a C os f .any (fun w args => (s.pre enc C.prog fn conds apart w args ∧ X w args) ∧ sizedMet enc C.prog fn (OpenSpec.ofChange s) apart w args) (s.post enc C.prog fn apart fresh handsOn again) := by
  refine returnsInHanded_of_calls own started noInit witness ?_
  intro w tape i _ hsh _ hok hpre _
  obtain ⟨_, _, _, fn', hfn', _, _, _, _, hval⟩ := hok
  have e : fn' = fn := Option.some.inj (hfn'.symm.trans hfn)
  subst e
  obtain ⟨⟨⟨ds, gs, before, hw, _⟩, hx⟩, _⟩ := hpre
  refine (contract (w.forCall tape i) w.heap.size i.args ds gs before hval (DataW.Whole.of_heap (w' := w.forCall tape i) (by rfl) hw) (hX _ _ _ (by rfl) hx) hsh).mono fun e W' ⟨v, he, hp⟩ => ?_
  subst he
  exact ChangeSpec.post_blind hp
end Go
/- Plain tools for loops and numbers. -/
namespace Go.Lg
open Go Go.Ev
theorem w64 {n : Int} (h : -9223372036854775808 ≤ n ∧ n ≤ 9223372036854775807) : IntKind.wrap .i64 n = n := IntWalk.i64_in n h
theorem wsucc {i : Nat} (h : i < 4611686018427387904) : IntKind.wrap .i64 ((i : Int) + 1) = ((i + 1 : Nat) : Int) := by rw [w64 (by omega)]; omega
theorem dlt {a b : Nat} : decide (((a : Nat) : Int) < ((b : Nat) : Int)) = decide (a < b) := by
  by_cases h : a < b
  · rw [decide_eq_true h, decide_eq_true (by omega)]
  · rw [decide_eq_false h, decide_eq_false (by omega)]
theorem dle {a b : Nat} : decide (((a : Nat) : Int) ≤ ((b : Nat) : Int)) = decide (a ≤ b) := by
  by_cases h : a ≤ b
  · rw [decide_eq_true h, decide_eq_true (by omega)]
  · rw [decide_eq_false h, decide_eq_false (by omega)]
theorem d0 {a : Nat} : decide ((0 : Int) ≤ ((a : Nat) : Int)) = true := decide_eq_true (Int.natCast_nonneg a)
theorem toNatC {a : Nat} : Int.toNat ((a : Nat) : Int) = a := Int.toNat_natCast a
theorem getD_lt {α : Type} {l : List α} {i : Nat} {d : α} (h : i < l.length) : List.getD l i d = l[i] := by
  rw [List.getD_eq_getElem?_getD, List.getElem?_eq_getElem h]; rfl
section
variable {R α β σ : Type}
/-- A loop that goes over a list and stops at the first that is bad. -/
theorem loop_all (L : Nat → Nat → Option R) (x : List α) (p : α → Bool) (A B : Option R)
    (hs : ∀ m i (h : i < x.length), L (m + 1) i = bif p x[i] then L m (i + 1) else B) (he : ∀ m, L (m + 1) x.length = A) : ∀ m i, i ≤ x.length → x.length - i < m → L m i = bif (x.drop i).all p then A else B := by
  intro m
  induction m with
  | zero => intro i h1 h2; omega
  | succ m ih =>
    intro i h1 h2
    rcases Nat.lt_or_ge i x.length with h | h
    · rw [hs m i h, ih (i + 1) (by omega) (by omega), List.drop_eq_getElem_cons h, List.all_cons]
      cases p x[i] <;> rfl
    · have : i = x.length := by omega
      subst this
      rw [he, List.drop_length]; rfl
theorem loop_all0 (L : Nat → Nat → Option R) (x : List α) (p : α → Bool) (A B : Option R)
    (hs : ∀ m i (h : i < x.length), L (m + 1) i = bif p x[i] then L m (i + 1) else B) (he : ∀ m, L (m + 1) x.length = A) {m : Nat} (hm : x.length < m) : L m 0 = bif x.all p then A else B := by
  have := loop_all L x p A B hs he m 0 (Nat.zero_le _) (by omega)
  rwa [List.drop_zero] at this
/-- A loop over the numbers below n. -/
theorem loop_allN (L : Nat → Nat → Option R) (n : Nat) (p : Nat → Bool) (A B : Option R)
    (hs : ∀ m i, i < n → L (m + 1) i = bif p i then L m (i + 1) else B) (he : ∀ m, L (m + 1) n = A) {m : Nat} (hm : n < m) : L m 0 = bif (List.range n).all p then A else B :=
  loop_all0 L (List.range n) p A B (fun m i h => by rw [List.getElem_range]; exact hs m i (by simpa using h)) (fun m => by rw [List.length_range]; exact he m) (by simpa using hm)
end
end Go.Lg
/- The hexes: what the functions answer. -/
set_option linter.unusedSimpArgs false
namespace Go.Lg
open Go Go.Ev
def inB (n lo hi : Int) : Bool := decide (lo ≤ n) && decide (n ≤ hi)
theorem inB_iff {n lo hi : Int} : inB n lo hi = true ↔ lo ≤ n ∧ n ≤ hi := by simp [inB]
def okHex (h : Int × Int) : Bool := inB h.1 (-40) 40 && inB h.2 (-40) 40
section
variable {R : Type}
theorem l1In_eq (n lo hi : Int) (K : Bool → Option R) : spec_l1In n lo hi K = K (inB n lo hi) := by
  unfold spec_l1In inB; cases decide (lo ≤ n) <;> rfl
theorem inRange_eq (n lo hi : Int) (K : Bool → Option R) : impl_inRange n lo hi K = K (inB n lo hi) := by
  unfold impl_inRange inB; cases decide (lo ≤ n) <;> rfl
/-- Two points that are not far. -/
def near (a : Int × Int) : Prop := (-1000 ≤ a.1 ∧ a.1 ≤ 1000) ∧ -1000 ≤ a.2 ∧ a.2 ≤ 1000
/-! ### turning -/
/-! ### lists of hexes -/
section
variable {l : List (Int × Int)} {h : Int × Int} (hl : l.length ≤ 137438953472) (hn : near h)
include hl hn
end
end
end Go.Lg
/- The maps: what the functions answer. -/
set_option linter.unusedSimpArgs false
namespace Go.Lg
open Go Go.Ev
abbrev MapT := Int × Int × List Int × List Int × List Int
section
variable {R : Type}
/-! ### lists of numbers -/
theorem eqIntS_self {k : Nat} (a : List Int) (h : a.length < k) (hb : a.length ≤ 137438953472) (K : Bool → Option R) : laws_eqIntS k a a K = K true := by
  unfold laws_eqIntS
  rw [decide_eq_true rfl]
  show laws_eqIntS_l0 k (K true) (fun x => K x) k a a 0 = _
  have := loop_all0 (fun m i => laws_eqIntS_l0 k (K true) (fun x => K x) m a a (i : Int)) a (fun _ => true) (K true) (K false) ?_ ?_ (m := k) h
  · refine this.trans ?_
    rw [List.all_eq_true.2 (fun _ _ => rfl)]; rfl
  · intro m i hi
    show laws_eqIntS_l0 k _ _ (m + 1) a a (i : Int) = laws_eqIntS_l0 k _ _ m a a ((i + 1 : Nat) : Int)
    rw [laws_eqIntS_l0, dlt, d0, decide_eq_true hi, decide_eq_true rfl, wsucc (by omega)]
    rfl
  · intro m
    show laws_eqIntS_l0 k _ _ (m + 1) a a (a.length : Int) = K true
    rw [laws_eqIntS_l0, dlt, decide_eq_false (by omega)]
    rfl
theorem l1All_eq {k : Nat} (l : List Int) (lo hi : Int) (h : l.length < k) (hb : l.length ≤ 137438953472) (K : Bool → Option R) : spec_l1All k l lo hi K = K (l.all fun x => inB x lo hi) := by
  unfold spec_l1All
  have := loop_all0 (fun m i => spec_l1All_l0 k (K true) (fun x => K x) m lo hi l (l.length : Int) (i : Int)) l (fun x => inB x lo hi) (K true) (K false) ?_ ?_ (m := k) h
  · refine this.trans ?_
    cases l.all _ <;> rfl
  · intro m i hi'
    show spec_l1All_l0 k _ _ (m + 1) lo hi l _ (i : Int) = bif _ then spec_l1All_l0 k _ _ m lo hi l _ ((i + 1 : Nat) : Int) else _
    rw [spec_l1All_l0, dlt, d0, decide_eq_true hi', toNatC, getD_lt hi', wsucc (by omega), l1In_eq]
    cases inB l[i] lo hi <;> rfl
  · intro m
    show spec_l1All_l0 k _ _ (m + 1) lo hi l (l.length : Int) (l.length : Int) = K true
    rw [spec_l1All_l0, dlt, decide_eq_false (by omega)]
    rfl
/-- Strictly increasing, by places. -/
def upAt (l : List Int) (i : Nat) : Bool := i == 0 || decide (l.getD (i - 1) 0 < l.getD i 0)
def incr (l : List Int) : Bool := (List.range l.length).all (upAt l)
/-! ### places and edges -/
def step (a : Int × Int) (d : Int) : Int × Int := (a.1 + (impl_directions.getD d.toNat (0, 0)).1, a.2 + (impl_directions.getD d.toNat (0, 0)).2)
def hexAt (m : MapT) (i : Int) : Int × Int := (Int.tmod i m.1, Int.tdiv i m.1)
def mapDim (m : MapT) : Prop := (1 ≤ m.1 ∧ m.1 ≤ 10) ∧ 1 ≤ m.2.1 ∧ m.2.1 ≤ 10
def ixOf (m : MapT) (h : Int × Int) : Int := bif inB h.1 0 (m.1 - 1) && inB h.2 0 (m.2.1 - 1) then h.2 * m.1 + h.1 else -1
def nextOf (m : MapT) (i d : Int) : Int := ixOf m (step (hexAt m i) d)
def edgeB (m : MapT) (e : Int) : Bool := inB e 0 (3 * (m.1 * m.2.1) - 1) && decide (0 ≤ nextOf m (Int.tdiv e 3) (Int.tmod e 3))
def edgesB (m : MapT) (l : List Int) : Bool := l.all (edgeB m) && incr l
def good (m : MapT) : Bool := inB m.1 1 10 && (inB m.2.1 1 10 && (decide ((m.2.2.1.length : Int) = m.1 * m.2.1) && (m.2.2.1.all (fun x => inB x 0 5) && (edgesB m m.2.2.2.1 && edgesB m m.2.2.2.2))))
/-- Lists of no more than 2^20. -/
def small (m : MapT) : Prop := m.2.2.1.length ≤ 1048576 ∧ m.2.2.2.1.length ≤ 1048576 ∧ m.2.2.2.2.length ≤ 1048576
end
end Go.Lg
/- The maps: the laws. -/
set_option linter.unusedSimpArgs false
namespace Go.Lg
open Go Go.Ev
section
variable {R : Type}
end
end Go.Lg
/- Tables, rules: what the functions answer. -/
set_option linter.unusedSimpArgs false
set_option linter.unusedVariables false
namespace Go.Lg
open Go Go.Ev
section
variable {R α : Type}
/-! ### sizes -/
/-! ### lists: copies, equality, the first one -/
theorem eqS_self {k : Nat} (a : List α) (h : a.length < k) (F : (Bool → Option R) → Option R) (L : Nat → List α → List α → Int → Option R) (K : Bool → Option R)
    (hF : F K = bif !(decide (((List.length a : Nat) : Int) = ((List.length a : Nat) : Int))) then K false else L k a a (0 : Int))
    (hs : ∀ m i (h : i < a.length), L (m + 1) a a (i : Int) = L m a a ((i + 1 : Nat) : Int)) (he : ∀ m, L (m + 1) a a (a.length : Int) = K true) : F K = K true := by
  rw [hF, decide_eq_true rfl]
  have := loop_all0 (fun m i => L m a a (i : Int)) a (fun _ => true) (K true) (K false) (fun m i h => hs m i h) he (m := k) h
  refine this.trans ?_
  rw [List.all_eq_true.2 (fun _ _ => rfl)]; rfl
def findF (p : α → Bool) : List α → Int → Int
  | [], _ => -1
  | x :: xs, i => if p x then i else findF p xs (i + 1)
def findI (p : α → Bool) (x : List α) : Int := findF p x 0
theorem loop_find (L : Nat → Nat → Option R) (x : List α) (p : α → Bool) (K : Int → Option R) (hs : ∀ m i (h : i < x.length), L (m + 1) i = bif p x[i] then K (i : Int) else L m (i + 1)) (he : ∀ m, L (m + 1) x.length = K (-1)) {m : Nat} (hm : x.length < m) : L m 0 = K (findI p x) := by
  have : ∀ m i, i ≤ x.length → x.length - i < m → L m i = K (findF p (x.drop i) (i : Int)) := by
    intro m
    induction m with
    | zero => intro i h1 h2; omega
    | succ m ih =>
      intro i h1 h2
      rcases Nat.lt_or_ge i x.length with h | h
      · rw [hs m i h, ih (i + 1) (by omega) (by omega), List.drop_eq_getElem_cons h]
        show _ = K (if p x[i] = true then (i : Int) else findF p (x.drop (i + 1)) ((i : Int) + 1))
        cases p x[i] <;> rfl
      · have : i = x.length := by omega
        subst this
        rw [he, List.drop_length]; rfl
  have := this m 0 (Nat.zero_le _) (by omega)
  rwa [List.drop_zero] at this
theorem findF_ge (p : α → Bool) : ∀ (x : List α) (i : Int), 0 ≤ i → (0 ≤ findF p x i ↔ x.any p = true) ∧ findF p x i < i + x.length ∧ -1 ≤ findF p x i
  | [], i, hi => by
    unfold findF
    exact ⟨⟨fun h => absurd h (by omega), fun h => (by cases h)⟩, by simp; omega, Int.le_refl _⟩
  | x :: xs, i, hi => by
    unfold findF
    obtain ⟨h1, h2, h3⟩ := findF_ge p xs (i + 1) (by omega)
    cases hp : p x
    · simp only [List.any_cons, hp, Bool.false_or, Bool.false_eq_true, if_false, List.length_cons]
      exact ⟨h1, by omega, h3⟩
    · simp only [List.any_cons, hp, Bool.true_or, if_true, List.length_cons]
      exact ⟨⟨fun _ => trivial, fun _ => hi⟩, by omega, by omega⟩
theorem findI_ge (p : α → Bool) (x : List α) : decide ((0 : Int) ≤ findI p x) = x.any p := by
  have := (findF_ge p x 0 (Int.le_refl _)).1
  unfold findI
  by_cases h : 0 ≤ findF p x 0
  · rw [decide_eq_true h, this.1 h]
  · rw [decide_eq_false h]
    cases hx : x.any p
    · rfl
    · exact absurd (this.2 hx) h
/-! ### combat tables -/
abbrev TabT := (List (Int × Int)) × Int × List (List Int)
def smallT (t : TabT) : Prop := t.1.length ≤ 1048576 ∧ t.2.2.length ≤ 1048576 ∧ ∀ r ∈ t.2.2, r.length ≤ 1048576
theorem eqOddsS_self {k : Nat} (a : List (Int × Int)) (h : a.length < k) (hb : a.length ≤ 137438953472) (K : Bool → Option R) : laws_eqOddsS k a a K = K true := by
  refine eqS_self a h (fun K => laws_eqOddsS k a a K) (fun m a b i => laws_eqOddsS_l0 k (K true) (fun x => K x) m a b i) K rfl ?_ ?_
  · intro m i hi
    show laws_eqOddsS_l0 k _ _ (m + 1) a a (i : Int) = laws_eqOddsS_l0 k _ _ m a a ((i + 1 : Nat) : Int)
    rw [laws_eqOddsS_l0, dlt, d0, decide_eq_true hi, wsucc (by omega)]
    unfold laws_eqOdds
    rw [decide_eq_true rfl, decide_eq_true rfl]
    rfl
  · intro m
    show laws_eqOddsS_l0 k _ _ (m + 1) a a (a.length : Int) = K true
    rw [laws_eqOddsS_l0, dlt, decide_eq_false (by omega)]; rfl
theorem eqIntSS_self {k : Nat} (a : List (List Int)) (h : a.length < k) (hb : a.length ≤ 137438953472) (hr : ∀ r ∈ a, r.length < k ∧ r.length ≤ 137438953472) (K : Bool → Option R) : laws_eqIntSS k a a K = K true := by
  refine eqS_self a h (fun K => laws_eqIntSS k a a K) (fun m a b i => laws_eqIntSS_l0 k (K true) (fun x => K x) m a b i) K rfl ?_ ?_
  · intro m i hi
    show laws_eqIntSS_l0 k _ _ (m + 1) a a (i : Int) = laws_eqIntSS_l0 k _ _ m a a ((i + 1 : Nat) : Int)
    have := hr _ (List.getElem_mem hi)
    rw [laws_eqIntSS_l0, dlt, d0, decide_eq_true hi, wsucc (by omega), toNatC, getD_lt hi, eqIntS_self _ this.1 this.2]
    rfl
  · intro m
    show laws_eqIntSS_l0 k _ _ (m + 1) a a (a.length : Int) = K true
    rw [laws_eqIntSS_l0, dlt, decide_eq_false (by omega)]; rfl
theorem eqTab_self {t : TabT} (hs : smallT t) (K : Bool → Option R) : laws_eqCombatTable 4194304 t t K = K true := by
  obtain ⟨s1, s2, s3⟩ := hs
  unfold laws_eqCombatTable
  rw [eqOddsS_self _ (by omega) (by omega), decide_eq_true rfl, Bool.not_true, cond_false, cond_false, eqIntSS_self _ (by omega) (by omega) (fun r hr => by have := s3 r hr; omega)]
  rfl
/-- A column is in order. -/
def colB (l : List (Int × Int)) (i : Nat) : Bool := inB (List.getD l i ((0 : Int), (0 : Int))).1 1 20 && (inB (List.getD l i ((0 : Int), (0 : Int))).2 1 20 && (decide (i = 0) ||
  !decide (IntKind.wrap .i64 ((List.getD l i ((0 : Int), (0 : Int))).1 * (List.getD l (i - 1) ((0 : Int), (0 : Int))).2) ≤ IntKind.wrap .i64 ((List.getD l (i - 1) ((0 : Int), (0 : Int))).1 * (List.getD l i ((0 : Int), (0 : Int))).2))))
def rowB (n : Nat) (r : List Int) : Bool := decide (r.length = n) && r.all fun x => inB x 0 7
def goodT (t : TabT) : Bool := inB (t.1.length : Int) 1 8 && (inB t.2.1 1 2 && (decide ((t.2.2.length : Int) = 5 * t.2.1 + 1) && ((List.range t.1.length).all (colB t.1) && t.2.2.all (rowB t.1.length))))
theorem dnat {a b : Nat} : decide (((a : Nat) : Int) = ((b : Nat) : Int)) = decide (a = b) := by
  by_cases h : a = b
  · rw [decide_eq_true h, decide_eq_true (by omega)]
  · rw [decide_eq_false h, decide_eq_false (by omega)]
theorem kGood_l0_eq {k q : Nat} {t : TabT} (hs : smallT t) (hq : t.1.length < q) (K0 : TabT → Option R) (K1 : Bool → Option R) :
    spec_kGood_l0 k K0 K1 q t.1 (t.1.length : Int) 0 t = bif (List.range t.1.length).all (colB t.1) then K0 t else K1 false := by
  obtain ⟨s1, s2, s3⟩ := hs
  refine loop_allN (fun m i => spec_kGood_l0 k K0 K1 m t.1 (t.1.length : Int) (i : Int) t) t.1.length (colB t.1) (K0 t) (K1 false) ?_ ?_ hq
  · intro m i hi
    show spec_kGood_l0 k K0 K1 (m + 1) t.1 (t.1.length : Int) (i : Int) t = bif _ then spec_kGood_l0 k K0 K1 m t.1 (t.1.length : Int) ((i + 1 : Nat) : Int) t else _
    rw [spec_kGood_l0, dlt, d0, decide_eq_true hi, toNatC, wsucc (by omega), l1In_eq, l1In_eq]
    unfold colB
    cases inB (List.getD t.1 i ((0 : Int), (0 : Int))).1 1 20
    · rfl
    cases inB (List.getD t.1 i ((0 : Int), (0 : Int))).2 1 20
    · rfl
    rcases Nat.eq_zero_or_pos i with rfl | h0
    · rfl
    · rw [decide_eq_true (by omega : (0 : Int) < (i : Int)), w64 (n := (i : Int) - 1) (by omega), show (i : Int) - 1 = ((i - 1 : Nat) : Int) by omega, d0, dlt, decide_eq_true (by omega : i - 1 < t.1.length), toNatC, decide_eq_false (by omega : ¬ i = 0)]
      cases decide (IntKind.wrap .i64 ((List.getD t.1 i ((0 : Int), (0 : Int))).1 * (List.getD t.1 (i - 1) ((0 : Int), (0 : Int))).2) ≤ IntKind.wrap .i64 ((List.getD t.1 (i - 1) ((0 : Int), (0 : Int))).1 * (List.getD t.1 i ((0 : Int), (0 : Int))).2)) <;> rfl
  · intro m
    show spec_kGood_l0 k K0 K1 (m + 1) t.1 (t.1.length : Int) (t.1.length : Int) t = K0 t
    rw [spec_kGood_l0, dlt, decide_eq_false (by omega)]; rfl
theorem kGood_l1_eq {k q : Nat} {t : TabT} (hs : smallT t) (hk : 1048576 < k) (hq : t.2.2.length < q) (K0 : Option R) (K1 : Bool → Option R) :
    spec_kGood_l1 k K0 K1 q t.2.2 (t.2.2.length : Int) 0 t = bif t.2.2.all (rowB t.1.length) then K0 else K1 false := by
  obtain ⟨s1, s2, s3⟩ := hs
  refine loop_all0 (fun m i => spec_kGood_l1 k K0 K1 m t.2.2 (t.2.2.length : Int) (i : Int) t) t.2.2 (rowB t.1.length) K0 (K1 false) ?_ ?_ hq
  · intro m i hi
    have := s3 _ (List.getElem_mem hi)
    show spec_kGood_l1 k K0 K1 (m + 1) t.2.2 (t.2.2.length : Int) (i : Int) t = bif _ then spec_kGood_l1 k K0 K1 m t.2.2 (t.2.2.length : Int) ((i + 1 : Nat) : Int) t else _
    rw [spec_kGood_l1, dlt, d0, decide_eq_true hi, toNatC, wsucc (by omega), getD_lt hi, dnat, l1All_eq _ _ _ (by omega) (by omega)]
    unfold rowB
    cases decide (t.2.2[i].length = t.1.length)
    · rfl
    cases (t.2.2[i].all fun x => inB x 0 7) <;> rfl
  · intro m
    show spec_kGood_l1 k K0 K1 (m + 1) t.2.2 (t.2.2.length : Int) (t.2.2.length : Int) t = K0
    rw [spec_kGood_l1, dlt, decide_eq_false (by omega)]; rfl
theorem kGood_eq {t : TabT} (hs : smallT t) (K : Bool → Option R) : spec_kGood 4194304 t K = K (goodT t) := by
  have hs' := hs
  obtain ⟨s1, s2, s3⟩ := hs'
  unfold spec_kGood goodT spec_kRows
  rw [l1In_eq, l1In_eq, kGood_l0_eq hs (by omega), kGood_l1_eq hs (by omega) (by omega)]
  cases inB (t.1.length : Int) 1 8
  · rfl
  cases hd : inB t.2.1 1 2
  · rfl
  rw [inB_iff] at hd
  rw [w64 (n := 5 * t.2.1) (by omega), w64 (by omega)]
  simp only [Bool.not_true, cond_false]
  cases decide ((t.2.2.length : Int) = 5 * t.2.1 + 1)
  · rfl
  cases (List.range t.1.length).all (colB t.1)
  · rfl
  cases t.2.2.all (rowB t.1.length) <;> rfl
theorem notRes_eq {k : Nat} (l : List Int) (h : l.length < k) (hb : l.length ≤ 137438953472) (K : Bool → Option R) : slices_ContainsFunc_Sint_int__impl_IsCombatTable_1 k l K = K (!l.all fun x => inB x 0 7) := by
  unfold slices_ContainsFunc_Sint_int__impl_IsCombatTable_1 slices_IndexFunc_Sint_int__impl_IsCombatTable_1
  have := loop_find (fun m i => slices_IndexFunc_Sint_int__impl_IsCombatTable_1_l0 k (K (decide ((0 : Int) ≤ -1))) (fun x => K (decide (0 ≤ x))) m l (l.length : Int) (i : Int)) l (fun x => !inB x 0 7) (fun x => K (decide (0 ≤ x))) ?_ ?_ (m := k) h
  · refine this.trans ?_
    show K (decide (0 ≤ findI (fun x => !inB x 0 7) l)) = _
    rw [findI_ge]
    congr 1
    rw [List.all_eq_not_any_not]; simp
  · intro m i hi
    show slices_IndexFunc_Sint_int__impl_IsCombatTable_1_l0 k _ _ (m + 1) l (l.length : Int) (i : Int) = bif _ then _ else slices_IndexFunc_Sint_int__impl_IsCombatTable_1_l0 k _ _ m l (l.length : Int) ((i + 1 : Nat) : Int)
    rw [slices_IndexFunc_Sint_int__impl_IsCombatTable_1_l0, dlt, d0, decide_eq_true hi, toNatC, wsucc (by omega), getD_lt hi]
    unfold impl_IsCombatTable_1 impl_isResult
    rw [inRange_eq]
    rfl
  · intro m
    show slices_IndexFunc_Sint_int__impl_IsCombatTable_1_l0 k _ _ (m + 1) l (l.length : Int) (l.length : Int) = _
    rw [slices_IndexFunc_Sint_int__impl_IsCombatTable_1_l0, dlt, decide_eq_false (by omega)]; rfl
theorem IsTab_l0_eq {k q : Nat} {t : TabT} (hs : smallT t) (hq : t.1.length < q) (K0 : TabT → Option R) (K1 : Bool → Option R) :
    impl_IsCombatTable_l0 k K0 K1 q t.1 (t.1.length : Int) 0 t = bif (List.range t.1.length).all (colB t.1) then K0 t else K1 false := by
  obtain ⟨s1, s2, s3⟩ := hs
  refine loop_allN (fun m i => impl_IsCombatTable_l0 k K0 K1 m t.1 (t.1.length : Int) (i : Int) t) t.1.length (colB t.1) (K0 t) (K1 false) ?_ ?_ hq
  · intro m i hi
    show impl_IsCombatTable_l0 k K0 K1 (m + 1) t.1 (t.1.length : Int) (i : Int) t = bif _ then impl_IsCombatTable_l0 k K0 K1 m t.1 (t.1.length : Int) ((i + 1 : Nat) : Int) t else _
    rw [impl_IsCombatTable_l0, dlt, d0, decide_eq_true hi, toNatC, wsucc (by omega), inRange_eq, inRange_eq]
    unfold colB
    cases inB (List.getD t.1 i ((0 : Int), (0 : Int))).1 1 20
    · rfl
    cases inB (List.getD t.1 i ((0 : Int), (0 : Int))).2 1 20
    · rfl
    rcases Nat.eq_zero_or_pos i with rfl | h0
    · rfl
    · rw [decide_eq_true (by omega : (0 : Int) < (i : Int)), w64 (n := (i : Int) - 1) (by omega), show (i : Int) - 1 = ((i - 1 : Nat) : Int) by omega, d0, dlt, decide_eq_true (by omega : i - 1 < t.1.length), toNatC, decide_eq_false (by omega : ¬ i = 0)]
      cases decide (IntKind.wrap .i64 ((List.getD t.1 i ((0 : Int), (0 : Int))).1 * (List.getD t.1 (i - 1) ((0 : Int), (0 : Int))).2) ≤ IntKind.wrap .i64 ((List.getD t.1 (i - 1) ((0 : Int), (0 : Int))).1 * (List.getD t.1 i ((0 : Int), (0 : Int))).2)) <;> rfl
  · intro m
    show impl_IsCombatTable_l0 k K0 K1 (m + 1) t.1 (t.1.length : Int) (t.1.length : Int) t = K0 t
    rw [impl_IsCombatTable_l0, dlt, decide_eq_false (by omega)]; rfl
theorem IsTab_l1_eq {k q : Nat} {t : TabT} (hs : smallT t) (hk : 1048576 < k) (hq : t.2.2.length < q) (K0 : Option R) (K1 : Bool → Option R) :
    impl_IsCombatTable_l1 k K0 K1 q t.2.2 (t.2.2.length : Int) 0 t = bif t.2.2.all (rowB t.1.length) then K0 else K1 false := by
  obtain ⟨s1, s2, s3⟩ := hs
  refine loop_all0 (fun m i => impl_IsCombatTable_l1 k K0 K1 m t.2.2 (t.2.2.length : Int) (i : Int) t) t.2.2 (rowB t.1.length) K0 (K1 false) ?_ ?_ hq
  · intro m i hi
    have := s3 _ (List.getElem_mem hi)
    show impl_IsCombatTable_l1 k K0 K1 (m + 1) t.2.2 (t.2.2.length : Int) (i : Int) t = bif _ then impl_IsCombatTable_l1 k K0 K1 m t.2.2 (t.2.2.length : Int) ((i + 1 : Nat) : Int) t else _
    rw [impl_IsCombatTable_l1, dlt, d0, decide_eq_true hi, toNatC, wsucc (by omega), getD_lt hi, dnat, notRes_eq _ (by omega) (by omega)]
    unfold rowB
    cases decide (t.2.2[i].length = t.1.length)
    · rfl
    cases (t.2.2[i].all fun x => inB x 0 7) <;> rfl
  · intro m
    show impl_IsCombatTable_l1 k K0 K1 (m + 1) t.2.2 (t.2.2.length : Int) (t.2.2.length : Int) t = K0
    rw [impl_IsCombatTable_l1, dlt, decide_eq_false (by omega)]; rfl
theorem IsTab_eq {t : TabT} (hs : smallT t) (K : Bool → Option R) : impl_IsCombatTable 4194304 t K = K (goodT t) := by
  have hs' := hs
  obtain ⟨s1, s2, s3⟩ := hs'
  unfold impl_IsCombatTable goodT
  rw [inRange_eq, inRange_eq, IsTab_l0_eq hs (by omega), IsTab_l1_eq hs (by omega) (by omega)]
  cases inB (t.1.length : Int) 1 8
  · rfl
  cases hd : inB t.2.1 1 2
  · rfl
  rw [inB_iff] at hd
  rw [w64 (n := 5 * t.2.1) (by omega), w64 (by omega)]
  cases decide ((t.2.2.length : Int) = 5 * t.2.1 + 1)
  · rfl
  cases (List.range t.1.length).all (colB t.1)
  · rfl
  cases t.2.2.all (rowB t.1.length) <;> rfl
end
end Go.Lg
/- Tables: the laws. -/
set_option linter.unusedSimpArgs false
set_option linter.unusedVariables false
namespace Go.Lg
open Go Go.Ev
section
variable {R : Type}
theorem good_tab {t : TabT} (h : goodT t = true) : (1 ≤ t.1.length ∧ t.1.length ≤ 8) ∧ (1 ≤ t.2.1 ∧ t.2.1 ≤ 2) ∧ (t.2.2.length : Int) = 5 * t.2.1 + 1 ∧ (∀ i < t.1.length, colB t.1 i = true) ∧ ∀ r ∈ t.2.2, r.length = t.1.length ∧ ∀ x ∈ r, 0 ≤ x ∧ x ≤ 7 := by
  unfold goodT at h
  simp only [Bool.and_eq_true, inB_iff, decide_eq_true_eq, List.all_eq_true, List.mem_range] at h
  obtain ⟨h1, h2, h3, h4, h5⟩ := h
  refine ⟨by omega, h2, h3, h4, fun r hr => ?_⟩
  have := h5 r hr
  unfold rowB at this
  simp only [Bool.and_eq_true, inB_iff, decide_eq_true_eq, List.all_eq_true] at this
  exact this
/-! ### scores -/
def sc (r : Int) : Int := if r = 7 then 0 else if 4 ≤ r then 3 - r else r
def monB (rows : List (List Int)) (i : Nat) (j : Nat) : Bool :=
  (decide (j = 0) || !decide (sc (List.getD (List.getD rows i []) j 0) < sc (List.getD (List.getD rows i []) (j - 1) 0))) && (decide (i = 0) || !decide (sc (List.getD (List.getD rows i []) j 0) < sc (List.getD (List.getD rows (i - 1) []) j 0)))
def mono (t : TabT) : Bool := (List.range t.2.2.length).all fun i => (List.range t.1.length).all (monB t.2.2 i)
end
end Go.Lg
/- Tables: counts and means. -/
set_option linter.unusedSimpArgs false
set_option linter.unusedVariables false
namespace Go.Lg
open Go Go.Ev
section
variable {R α σ : Type}
/-- A loop whose states are known. -/
theorem loop_det (L : Nat → Nat → σ → Option R) (n : Nat) (g : Nat → σ) (fin : Option R) (hs : ∀ m i, i < n → L (m + 1) i (g i) = L m (i + 1) (g (i + 1))) (he : ∀ m, L (m + 1) n (g n) = fin) : ∀ m i, i ≤ n → n - i < m → L m i (g i) = fin := by
  intro m
  induction m with
  | zero => intro i h1 h2; omega
  | succ m ih =>
    intro i h1 h2
    rcases Nat.lt_or_ge i n with h | h
    · rw [hs m i h, ih (i + 1) (by omega) (by omega)]
    · have : i = n := by omega
      subst this
      exact he m
section
variable (t : TabT) (c : Int)
end
section
variable {t : TabT} {c : Int} (hg : goodT t = true) (h2 : 0 ≤ c) (h3 : c ≤ (t.1.length : Int) - 1)
include hg h2 h3
end
end
end Go.Lg
/- Rules: what the functions answer; their laws. -/
set_option linter.unusedSimpArgs false
set_option linter.unusedVariables false
namespace Go.Lg
open Go Go.Ev
section
variable {R α : Type}
abbrev TerT := ByteArray × (List Int) × Int × Int × Bool
abbrev KndT := ByteArray × Int × Int × Int × Bool × Int
abbrev RulT := (List TerT) × (List KndT) × Int × Int × Int × Int × Int
/-! ### sizes -/
/-! ### copies, equality -/
/-! ### names -/
def letB (s : ByteArray) (i : Nat) : Bool := !decide (byteAt s (i : Int) < 97) && !decide (122 < byteAt s (i : Int))
def nameB (s : ByteArray) : Bool := (List.range s.size).all (letB s) && inB (s.size : Int) 1 8
def isT (name : ByteArray) (t : TerT) : Bool := t.1.toList == name.toList
def isK (name : ByteArray) (t : KndT) : Bool := t.1.toList == name.toList
/-! ### good rules -/
def terB (r : RulT) (i : Nat) (t : TerT) : Bool := nameB t.1 && (decide (findI (isT t.1) r.1 = (i : Int)) && (decide (t.2.1.length = r.2.1.length) && ((t.2.1.all fun x => inB x 0 9) && (inB t.2.2.1 (-3) 3 && inB t.2.2.2.1 0 3))))
def kndB (r : RulT) (i : Nat) (t : KndT) : Bool := nameB t.1 && (decide (findI (isK t.1) r.2.1 = (i : Int)) && (inB t.2.1 1 9 && (inB t.2.2.1 0 9 && (inB t.2.2.2.1 1 4 && inB t.2.2.2.2.2 0 4))))
abbrev zTer : TerT := ((⟨#[]⟩ : ByteArray), ([], ((0 : Int), ((0 : Int), false))))
abbrev zKnd : KndT := ((⟨#[]⟩ : ByteArray), ((0 : Int), ((0 : Int), ((0 : Int), (false, (0 : Int))))))
def limB (r : RulT) : Bool := inB r.2.2.1 1 4 && (inB r.2.2.2.1 0 9 && (inB r.2.2.2.2.1 1 9 && (inB r.2.2.2.2.2.1 0 20 && inB r.2.2.2.2.2.2 1 30)))
def goodR (r : RulT) : Bool := inB (r.1.length : Int) 1 6 && (inB (r.2.1.length : Int) 1 4 && ((List.range r.1.length).all (fun i => terB r i (List.getD r.1 i zTer)) && ((List.range r.2.1.length).all (fun i => kndB r i (List.getD r.2.1 i zKnd)) && limB r)))
/-! ### the laws -/
end
end Go.Lg
/- Boards: what the functions answer; their laws. -/
set_option linter.unusedSimpArgs false
set_option linter.unusedVariables false
namespace Go.Lg
open Go Go.Ev
section
variable {R α : Type}
abbrev BrdT := RulT × MapT
def goodB (b : BrdT) : Bool := goodR b.1 && (good b.2 && b.2.2.2.1.all fun x => inB x 0 ((b.1.1.length : Int) - 1))
/-! ### costs -/
end
end Go.Lg
/- Texts: numerals, lists, lines. -/
set_option linter.unusedSimpArgs false
set_option linter.unusedVariables false
namespace Go.Lg
open Go Go.Ev
section
variable {R : Type}
theorem sz_lit (l : List UInt8) : ByteArray.size (⟨l.toArray⟩ : ByteArray) = l.length := by simp [ByteArray.size]
theorem gok {a b : ByteArray} (h : a.size + b.size ≤ 137438953472) : decide (a.size + b.size ≤ maxGrow) = true := decide_eq_true h
def toL (s : ByteArray) : List UInt8 := s.data.toList
theorem toL_app (a b : ByteArray) : toL (a ++ b) = toL a ++ toL b := by unfold toL; rw [ByteArray.data_append, Array.toList_append]
theorem toL_lit (l : List UInt8) : toL ⟨l.toArray⟩ = l := rfl
theorem toL_inj {a b : ByteArray} (h : toL a = toL b) : a = b := by
  unfold toL at h
  exact ByteArray.ext (Array.toList_inj.1 h)
theorem size_toL (a : ByteArray) : a.size = (toL a).length := rfl
theorem itoaB_toL (n : Int) : toL (itoaB n) = Lib.itoa n := rfl
theorem itoaB_size {n : Int} (h : -9223372036854775808 ≤ n ∧ n ≤ 9223372036854775807) : (itoaB n).size ≤ 21 := by
  rw [size_toL, itoaB_toL]
  exact Lib.itoa_length_le n h.1 h.2
theorem Itoa_eq {n : Int} (h : -9223372036854775808 ≤ n ∧ n ≤ 9223372036854775807) (K : ByteArray → Option R) : strconv_Itoa n K = K (itoaB n) := by
  unfold strconv_Itoa
  rw [decide_eq_true h.1, decide_eq_true h.2]; rfl
def decB (u : Nat) : ByteArray := ⟨(Lib.decDigits u).toArray⟩
theorem decB_itoa (u : Nat) : itoaB (u : Int) = decB u := by unfold itoaB decB; rw [Lib.itoa_nonneg]
theorem decB_small {u : Nat} (h : u < 10) : decB u = bytesOfInts [((48 + u : Nat) : Int)] := by
  unfold decB bytesOfInts
  rw [Lib.decDigits, dif_pos h]
  rfl
theorem decB_big {u : Nat} (h : ¬ u < 10) : decB u = decB (u / 10) ++ bytesOfInts [((48 + u % 10 : Nat) : Int)] := by
  apply toL_inj
  rw [toL_app]
  show Lib.decDigits u = Lib.decDigits (u / 10) ++ [UInt8.ofNat (Int.toNat ((48 + u % 10 : Nat) : Int))]
  conv => lhs; rw [Lib.decDigits, dif_neg h]
  rfl
theorem wu8 {n : Int} (h : 0 ≤ n ∧ n ≤ 255) : IntKind.wrap .u8 n = n := by
  have e : IntKind.wrap .u8 n = n % 256 := rfl
  rw [e]; omega
theorem l1Num_nat : ∀ (j d u : Nat), j ≤ d → 1 ≤ j → j ≤ 100 → u < 10 ^ j → u ≤ 4611686018427387904 → (∀ K : ByteArray → Option R, spec_l1Num d (u : Int) K = K (decB u)) ∧ (decB u).size ≤ j
  | 0, d, u, h1, h2, h3, h4, h5 => by omega
  | j + 1, d, u, h1, h2, h3, h4, h5 => by
    obtain ⟨d, rfl⟩ : ∃ q, d = q + 1 := ⟨d - 1, by omega⟩
    by_cases h : u < 10
    · refine ⟨fun K => ?_, ?_⟩
      · rw [spec_l1Num, decide_eq_true (by omega : (u : Int) < 10), cond_true, w64 (by omega), wu8 (by omega), decB_small h]
        rfl
      · rw [decB_small h, size_toL]; show 1 ≤ j + 1; omega
    · have hj : 1 ≤ j := by
        rcases Nat.eq_zero_or_pos j with h0 | h0
        · subst h0; omega
        · exact h0
      obtain ⟨g1, g2⟩ := l1Num_nat j d (u / 10) (by omega) hj (by omega) (by rw [Nat.pow_succ] at h4; omega) (by omega)
      have e1 : (bytesOfInts [((48 + u % 10 : Nat) : Int)]).size = 1 := rfl
      refine ⟨fun K => ?_, ?_⟩
      · have ht : Int.tdiv (u : Int) 10 = ((u / 10 : Nat) : Int) := rfl
        have hm : Int.tmod (u : Int) 10 = ((u % 10 : Nat) : Int) := rfl
        rw [spec_l1Num, decide_eq_false (by omega : ¬ (u : Int) < 10), cond_false, ht, hm, w64 (n := ((u / 10 : Nat) : Int)) (by omega), g1, w64 (by omega), wu8 (by omega), show (48 : Int) + ((u % 10 : Nat) : Int) = ((48 + u % 10 : Nat) : Int) by omega, gok (by rw [e1]; omega), decB_big h]
        rfl
      · rw [decB_big h, ByteArray.size_append, e1]; omega
theorem l1Num_eq {d : Nat} (hd : 100 ≤ d) {n : Int} (h : 0 ≤ n ∧ n ≤ 4611686018427387904) (K : ByteArray → Option R) : spec_l1Num d n K = K (itoaB n) := by
  obtain ⟨u, rfl⟩ : ∃ u : Nat, n = (u : Int) := ⟨n.toNat, by omega⟩
  rw [decB_itoa]
  exact (l1Num_nat 100 d u hd (by omega) (by omega) (Nat.lt_of_le_of_lt (by omega : u ≤ 4611686018427387904) (by decide)) (by omega)).1 K
/-! ### words -/
abbrev sp : ByteArray := ⟨#[32]⟩
/-- A word and numbers behind it. -/
def wordB (w : ByteArray) (l : List Int) : ByteArray := l.foldl (fun s n => s ++ (sp ++ itoaB n)) w
def okN (l : List Int) : Prop := ∀ x ∈ l, -4611686018427387904 ≤ x ∧ x ≤ 4611686018427387904
theorem wordB_size {l : List Int} : ∀ {w : ByteArray}, okN l → (wordB w l).size ≤ w.size + 22 * l.length := by
  induction l with
  | nil => intro w _; exact Nat.le_refl _
  | cons x l ih =>
    intro w h
    have h1 := h x (by simp)
    have h2 := ih (w := w ++ (sp ++ itoaB x)) (fun y hy => h y (by simp [hy]))
    have h3 := itoaB_size (n := x) (by omega)
    have e : (sp : ByteArray).size = 1 := rfl
    rw [ByteArray.size_append, ByteArray.size_append, e] at h2
    show (wordB (w ++ (sp ++ itoaB x)) l).size ≤ w.size + 22 * (l.length + 1)
    omega
theorem joinB_eq (w : ByteArray) (l : List Int) : joinB (w :: l.map itoaB) sp = wordB w l := by
  apply toL_inj
  show Lib.join ((w :: l.map itoaB).map fun x => x.data.toList) sp.data.toList = _
  rw [List.map_cons, Lib.join_cons]
  have : ∀ (l : List Int) (w : ByteArray), toL w ++ Lib.joinTail sp.data.toList ((l.map itoaB).map fun x => x.data.toList) = toL (wordB w l) := by
    intro l
    induction l with
    | nil => intro w; simp [Lib.joinTail, wordB]
    | cons x l ih =>
      intro w
      show _ = toL (wordB (w ++ (sp ++ itoaB x)) l)
      rw [← ih (w ++ (sp ++ itoaB x)), toL_app, toL_app]
      simp only [List.map_cons, Lib.joinTail, List.flatten_cons, List.append_assoc]
      rfl
  exact this l w
theorem wordsText_eq {k : Nat} (w : ByteArray) (l : List Int) (hl : l.length ≤ 1048577) (hk : l.length < k) (hw : w.size ≤ 1048576) (h : okN l) (K : ByteArray → Option R) : impl_wordsText k w l K = K (wordB w l) := by
  unfold impl_wordsText
  have hsz := wordB_size (w := w) h
  have := loop_det (fun m i parts => impl_wordsText_l0 k (fun parts0 => strings_Join parts0 sp fun r0 => K r0) m l (l.length : Int) (i : Int) parts) l.length (fun i => w :: (l.take i).map itoaB) (K (wordB w l)) ?_ ?_ k 0 (Nat.zero_le _) (by omega)
  · exact this
  · intro m i hi
    show impl_wordsText_l0 k _ (m + 1) l (l.length : Int) (i : Int) _ = impl_wordsText_l0 k _ m l (l.length : Int) ((i + 1 : Nat) : Int) _
    have hx := h _ (List.getElem_mem hi)
    rw [impl_wordsText_l0, dlt, d0, decide_eq_true hi, toNatC, getD_lt hi, wsucc (by omega), Itoa_eq (by omega)]
    have hg : decide ((w :: (l.take i).map itoaB).length + [itoaB l[i]].length ≤ maxGrow) = true := decide_eq_true (by unfold maxGrow; simp; omega)
    rw [hg, List.take_succ_eq_append_getElem hi, List.map_append]
    rfl
  · intro m
    show impl_wordsText_l0 k _ (m + 1) l (l.length : Int) (l.length : Int) _ = _
    rw [impl_wordsText_l0, dlt, decide_eq_false (by omega), List.take_length]
    show strings_Join (w :: l.map itoaB) sp (fun r0 => K r0) = _
    unfold strings_Join
    have e : (Lib.join ((w :: l.map itoaB).map fun x => x.data.toList) sp.data.toList).length = (wordB w l).size := by
      rw [size_toL, ← joinB_eq]; rfl
    rw [e, joinB_eq, decide_eq_true (by simp; omega), decide_eq_true (by omega)]
    rfl
theorem ok1 {n : Int} (h : -4611686018427387904 ≤ n ∧ n ≤ 4611686018427387904) : okN [n] := fun x hx => by rw [List.mem_singleton.1 hx]; exact h
theorem words1 {w : ByteArray} {n : Int} (hw : w.size ≤ 1048576) (h : -4611686018427387904 ≤ n ∧ n ≤ 4611686018427387904) (K : ByteArray → Option R) : impl_wordsText 4194304 w [n] K = K (w ++ (sp ++ itoaB n)) :=
  wordsText_eq (k := 4194304) w [n] (by simp) (by simp) hw (ok1 h) K
/-! ### the lines of rules -/
section
variable {t : KndT} (hn : t.1.size ≤ 8) (h1 : 0 ≤ t.2.1 ∧ t.2.1 ≤ 9) (h2 : 0 ≤ t.2.2.1 ∧ t.2.2.1 ≤ 9) (h3 : 0 ≤ t.2.2.2.1 ∧ t.2.2.2.1 ≤ 9) (h4 : 0 ≤ t.2.2.2.2.2 ∧ t.2.2.2.2.2 ≤ 9)
include hn h1 h2 h3 h4
end
/-! ### terrains -/
section
variable {t : TerT} (hn : t.1.size ≤ 8) (hl : t.2.1.length ≤ 4) (hc : ∀ x ∈ t.2.1, 0 ≤ x ∧ x ≤ 9) (h1 : -3 ≤ t.2.2.1 ∧ t.2.2.1 ≤ 3) (h2 : 0 ≤ t.2.2.2.1 ∧ t.2.2.2.1 ≤ 3)
include hn hl hc h1 h2
end
end
end Go.Lg
/- States: what the functions answer; their laws. -/
set_option linter.unusedSimpArgs false
set_option linter.unusedVariables false
namespace Go.Lg
open Go Go.Ev
section
variable {R α : Type}
/-! ### lists of places -/
/-! ### sizes, copies, equality -/
/-! ### one unit -/
/-! ### states -/
end
end Go.Lg
/- States: the program's count; the laws. -/
set_option linter.unusedSimpArgs false
set_option linter.unusedVariables false
namespace Go.Lg
open Go Go.Ev
section
variable {R α σ : Type}
/-! ### the laws -/
end
end Go.Lg
/- Texts: tables and maps; their laws. -/
set_option linter.unusedSimpArgs false
set_option linter.unusedVariables false
namespace Go.Lg
open Go Go.Ev
section
variable {R α : Type}
theorem fold_size (f : ByteArray → α → ByteArray) (c : Nat) : ∀ (l : List α), (∀ s, ∀ x ∈ l, (f s x).size ≤ s.size + c) → ∀ s, (l.foldl f s).size ≤ s.size + c * l.length
  | [], _, s => Nat.le_refl _
  | x :: l, h, s => by
    have h1 := h s x (by simp)
    have h2 := fold_size f c l (fun s y hy => h s y (by simp [hy])) (f s x)
    have e : c * (l.length + 1) = c * l.length + c := by rw [Nat.mul_add, Nat.mul_one]
    show (l.foldl f (f s x)).size ≤ s.size + c * (l.length + 1)
    omega
theorem loop_text (L : Nat → Nat → ByteArray → Option R) (x : List α) (f : ByteArray → α → ByteArray) (c S : Nat) (fin : ByteArray → Option R) (hf : ∀ s, ∀ y ∈ x, (f s y).size ≤ s.size + c)
    (hs : ∀ m i s (h : i < x.length), s.size ≤ S + c * i → L (m + 1) i s = L m (i + 1) (f s x[i])) (he : ∀ m s, s.size ≤ S + c * x.length → L (m + 1) x.length s = fin s) : ∀ m i s, i ≤ x.length → s.size ≤ S + c * i → x.length - i < m → L m i s = fin ((x.drop i).foldl f s) := by
  intro m
  induction m with
  | zero => intro i s h1 h2 h3; omega
  | succ m ih =>
    intro i s h1 h2 h3
    rcases Nat.lt_or_ge i x.length with h | h
    · have h4 := hf s _ (List.getElem_mem h)
      have e : c * (i + 1) = c * i + c := by rw [Nat.mul_add, Nat.mul_one]
      rw [hs m i s h h2, ih (i + 1) _ (by omega) (by omega) (by omega), List.drop_eq_getElem_cons h, List.foldl_cons]
    · have : i = x.length := by omega
      subst this
      rw [he m s h2, List.drop_length]; rfl
theorem loop_text0 (L : Nat → Nat → ByteArray → Option R) (x : List α) (f : ByteArray → α → ByteArray) (c S : Nat) (fin : ByteArray → Option R) (hf : ∀ s, ∀ y ∈ x, (f s y).size ≤ s.size + c)
    (hs : ∀ m i s (h : i < x.length), s.size ≤ S + c * i → L (m + 1) i s = L m (i + 1) (f s x[i])) (he : ∀ m s, s.size ≤ S + c * x.length → L (m + 1) x.length s = fin s) {m : Nat} {s : ByteArray} (h1 : s.size ≤ S) (h2 : x.length < m) : L m 0 s = fin (x.foldl f s) := by
  have := loop_text L x f c S fin hf hs he m 0 s (Nat.zero_le _) (by omega) (by omega)
  rwa [List.drop_zero] at this
/-! ### tables -/
abbrev nl : ByteArray := ⟨#[10]⟩
def colF (s : ByteArray) (c : Int × Int) : ByteArray := s ++ (((sp ++ itoaB c.1) ++ (⟨#[47]⟩ : ByteArray)) ++ itoaB c.2)
def celF (s : ByteArray) (x : Int) : ByteArray := s ++ itoaB x
def rowF (s : ByteArray) (r : List Int) : ByteArray := r.foldl celF s ++ nl
theorem col_in {t : TabT} (hg : goodT t = true) : ∀ c ∈ t.1, (1 ≤ c.1 ∧ c.1 ≤ 20) ∧ 1 ≤ c.2 ∧ c.2 ≤ 20 := by
  intro c hc
  obtain ⟨i, hi, rfl⟩ := List.getElem_of_mem hc
  obtain ⟨_, _, _, h, _⟩ := good_tab hg
  have := h i hi
  unfold colB at this
  rw [getD_lt hi] at this
  simp only [Bool.and_eq_true, inB_iff] at this
  exact ⟨this.1, this.2.1⟩
theorem colF_size {c : Int × Int} (h : (1 ≤ c.1 ∧ c.1 ≤ 20) ∧ 1 ≤ c.2 ∧ c.2 ≤ 20) (s : ByteArray) : (colF s c).size ≤ s.size + 44 := by
  have e1 := itoaB_size (n := c.1) (by omega)
  have e2 := itoaB_size (n := c.2) (by omega)
  unfold colF
  simp only [ByteArray.size_append, sz_lit, List.length_cons, List.length_nil]
  omega
theorem celF_size {x : Int} (h : 0 ≤ x ∧ x ≤ 7) (s : ByteArray) : (celF s x).size ≤ s.size + 21 := by
  have e1 := itoaB_size (n := x) (by omega)
  unfold celF
  rw [ByteArray.size_append]
  omega
theorem rowF_size {r : List Int} (hl : r.length ≤ 8) (h : ∀ x ∈ r, 0 ≤ x ∧ x ≤ 7) (s : ByteArray) : (rowF s r).size ≤ s.size + 169 := by
  have := fold_size celF 21 r (fun s x hx => celF_size (h x hx) s) s
  have e : (nl : ByteArray).size = 1 := rfl
  unfold rowF
  rw [ByteArray.size_append, e]
  omega
def tabH (t : TabT) : ByteArray := t.1.foldl colF (⟨#[111, 100, 100, 115]⟩ : ByteArray)
def tabD (t : TabT) : ByteArray := tabH t ++ (((⟨#[32, 100, 105, 99, 101, 32]⟩ : ByteArray) ++ itoaB t.2.1) ++ nl)
def tabZ (t : TabT) : ByteArray := t.2.2.foldl rowF (tabD t)
section
variable {t : TabT} (hg : goodT t = true)
include hg
theorem tabH_size : (tabH t).size ≤ 356 := by
  obtain ⟨h1, _⟩ := good_tab hg
  have := fold_size colF 44 t.1 (fun s x hx => colF_size (col_in hg x hx) s) (⟨#[111, 100, 100, 115]⟩ : ByteArray)
  have e : ByteArray.size (⟨#[111, 100, 100, 115]⟩ : ByteArray) = 4 := rfl
  unfold tabH
  omega
theorem tabD_size : (tabD t).size ≤ 384 := by
  obtain ⟨_, hd, _⟩ := good_tab hg
  have h0 := tabH_size hg
  have e1 := itoaB_size (n := t.2.1) (by omega)
  unfold tabD
  simp only [ByteArray.size_append, sz_lit, List.length_cons, List.length_nil]
  omega
theorem rows_size : ∀ s, ∀ r ∈ t.2.2, (rowF s r).size ≤ s.size + 169 := by
  intro s r hr
  obtain ⟨h1, _, _, _, h5⟩ := good_tab hg
  have := h5 r hr
  exact rowF_size (by omega) this.2 s
theorem rows_len : t.2.2.length ≤ 11 := by
  obtain ⟨_, hd, hl, _⟩ := good_tab hg
  omega
theorem kText_l0_eq {k q : Nat} (hk : 100 ≤ k) (hq : t.1.length < q) (K0 : ByteArray → TabT → Option R) : spec_kText_l0 k K0 q (⟨#[111, 100, 100, 115]⟩ : ByteArray) t.1 (t.1.length : Int) 0 t = K0 (tabH t) t := by
  obtain ⟨h1, _⟩ := good_tab hg
  refine loop_text0 (fun m i s => spec_kText_l0 k K0 m s t.1 (t.1.length : Int) (i : Int) t) t.1 colF 44 4 (fun s => K0 s t) (fun s x hx => colF_size (col_in hg x hx) s) ?_ ?_ (by exact Nat.le_refl _) hq
  · intro m i s hi hsz
    show spec_kText_l0 k K0 (m + 1) s t.1 (t.1.length : Int) (i : Int) t = spec_kText_l0 k K0 m _ t.1 (t.1.length : Int) ((i + 1 : Nat) : Int) t
    obtain ⟨c1, c2⟩ := col_in hg _ (List.getElem_mem hi)
    have e1 := itoaB_size (n := t.1[i].1) (by omega)
    have e2 := itoaB_size (n := t.1[i].2) (by omega)
    rw [spec_kText_l0, dlt, d0, decide_eq_true hi, toNatC, getD_lt hi, wsucc (by omega)]
    repeat (first | rw [gok (by first | omega | (simp only [ByteArray.size_append, sz_lit, List.length_cons, List.length_nil]; omega))] | rw [l1Num_eq hk (by omega)])
    rfl
  · intro m s _
    show spec_kText_l0 k K0 (m + 1) s t.1 (t.1.length : Int) (t.1.length : Int) t = _
    rw [spec_kText_l0, dlt, decide_eq_false (by omega)]; rfl
theorem kText_l1_eq {k q : Nat} (hk : 100 ≤ k) {i : Nat} (hi : i < t.2.2.length) (hq : t.1.length < q) {s : ByteArray} (hs : s.size ≤ 100000) (K0 : ByteArray → List (List Int) → Int → Int → Option R) : spec_kText_l1 k K0 q s t.2.2 (t.2.2.length : Int) (i : Int) (List.getD t.2.2 i []) ((List.getD t.2.2 i []).length : Int) 0 = K0 ((List.getD t.2.2 i []).foldl celF s) t.2.2 (t.2.2.length : Int) (i : Int) := by
  obtain ⟨h1, _, _, _, h5⟩ := good_tab hg
  have hrow := h5 (List.getD t.2.2 i []) (by rw [getD_lt hi]; exact List.getElem_mem hi)
  refine loop_text0 (fun m j s => spec_kText_l1 k K0 m s t.2.2 (t.2.2.length : Int) (i : Int) (List.getD t.2.2 i []) ((List.getD t.2.2 i []).length : Int) (j : Int)) (List.getD t.2.2 i []) celF 21 100000 (fun s => K0 s t.2.2 (t.2.2.length : Int) (i : Int)) (fun s x hx => celF_size (hrow.2 x hx) s) ?_ ?_ hs (by omega)
  · intro m j s hj hsz
    show spec_kText_l1 k K0 (m + 1) s t.2.2 (t.2.2.length : Int) (i : Int) (List.getD t.2.2 i []) _ (j : Int) = spec_kText_l1 k K0 m _ t.2.2 (t.2.2.length : Int) (i : Int) (List.getD t.2.2 i []) _ ((j + 1 : Nat) : Int)
    have c1 := hrow.2 _ (List.getElem_mem hj)
    have e1 := itoaB_size (n := (List.getD t.2.2 i [])[j]) (by omega)
    rw [spec_kText_l1, dlt, d0, decide_eq_true hj, toNatC, getD_lt hj, wsucc (by omega)]
    repeat (first | rw [gok (by first | omega | (simp only [ByteArray.size_append, sz_lit, List.length_cons, List.length_nil]; omega))] | rw [l1Num_eq hk (by omega)])
    rfl
  · intro m s _
    show spec_kText_l1 k K0 (m + 1) s t.2.2 (t.2.2.length : Int) (i : Int) (List.getD t.2.2 i []) _ ((List.getD t.2.2 i []).length : Int) = _
    rw [spec_kText_l1, dlt, decide_eq_false (by omega)]; rfl
theorem kText_l2_eq {k q : Nat} (hk : 100 ≤ k) (hq : t.2.2.length < q) (K0 : ByteArray → Option R) : spec_kText_l2 k K0 q (tabD t) t.2.2 (t.2.2.length : Int) 0 = K0 (tabZ t) := by
  obtain ⟨h1, _⟩ := good_tab hg
  have hn := rows_len hg
  refine loop_text0 (fun m i s => spec_kText_l2 k K0 m s t.2.2 (t.2.2.length : Int) (i : Int)) t.2.2 rowF 169 384 K0 (rows_size hg) ?_ ?_ (tabD_size hg) hq
  · intro m i s hi hsz
    show spec_kText_l2 k K0 (m + 1) s t.2.2 (t.2.2.length : Int) (i : Int) = spec_kText_l2 k K0 m (rowF s t.2.2[i]) t.2.2 (t.2.2.length : Int) ((i + 1 : Nat) : Int)
    have hz := rows_size hg s _ (List.getElem_mem hi)
    unfold rowF at hz
    rw [ByteArray.size_append] at hz
    have e : (nl : ByteArray).size = 1 := rfl
    rw [spec_kText_l2, dlt, d0, decide_eq_true hi, toNatC, kText_l1_eq hg hk hi (by omega) (by omega), getD_lt hi, gok (by show _ + (nl : ByteArray).size ≤ _; omega), wsucc (by omega)]
    rfl
  · intro m s _
    show spec_kText_l2 k K0 (m + 1) s t.2.2 (t.2.2.length : Int) (t.2.2.length : Int) = _
    rw [spec_kText_l2, dlt, decide_eq_false (by omega)]; rfl
theorem kText_eq (K : ByteArray → Option R) : spec_kText 4194304 t K = K (tabZ t) := by
  obtain ⟨h1, hd, _⟩ := good_tab hg
  have hn := rows_len hg
  have hz := tabH_size hg
  have e1 := itoaB_size (n := t.2.1) (by omega)
  unfold spec_kText
  rw [kText_l0_eq hg (by omega) (by omega)]
  repeat (first | rw [gok (by first | omega | (simp only [ByteArray.size_append, sz_lit, List.length_cons, List.length_nil]; omega)), cond_true] | rw [l1Num_eq (by omega) (by omega)])
  exact kText_l2_eq hg (by omega) (by omega) K
theorem tableText_l0_eq {k q : Nat} (hk : 100 ≤ k) (hq : t.1.length < q) (K0 : ByteArray → TabT → Option R) : impl_tableText_l0 k K0 q (⟨#[111, 100, 100, 115]⟩ : ByteArray) t.1 (t.1.length : Int) 0 t = K0 (tabH t) t := by
  obtain ⟨h1, _⟩ := good_tab hg
  refine loop_text0 (fun m i s => impl_tableText_l0 k K0 m s t.1 (t.1.length : Int) (i : Int) t) t.1 colF 44 4 (fun s => K0 s t) (fun s x hx => colF_size (col_in hg x hx) s) ?_ ?_ (by exact Nat.le_refl _) hq
  · intro m i s hi hsz
    show impl_tableText_l0 k K0 (m + 1) s t.1 (t.1.length : Int) (i : Int) t = impl_tableText_l0 k K0 m _ t.1 (t.1.length : Int) ((i + 1 : Nat) : Int) t
    obtain ⟨c1, c2⟩ := col_in hg _ (List.getElem_mem hi)
    have e1 := itoaB_size (n := t.1[i].1) (by omega)
    have e2 := itoaB_size (n := t.1[i].2) (by omega)
    rw [impl_tableText_l0, dlt, d0, decide_eq_true hi, toNatC, getD_lt hi, wsucc (by omega)]
    repeat (first | rw [gok (by first | omega | (simp only [ByteArray.size_append, sz_lit, List.length_cons, List.length_nil]; omega))] | rw [Itoa_eq (by omega)])
    rfl
  · intro m s _
    show impl_tableText_l0 k K0 (m + 1) s t.1 (t.1.length : Int) (t.1.length : Int) t = _
    rw [impl_tableText_l0, dlt, decide_eq_false (by omega)]; rfl
theorem tableText_l1_eq {k q : Nat} (hk : 100 ≤ k) {i : Nat} (hi : i < t.2.2.length) (hq : t.1.length < q) {s : ByteArray} (hs : s.size ≤ 100000) (K0 : ByteArray → List (List Int) → Int → Int → Option R) : impl_tableText_l1 k K0 q s t.2.2 (t.2.2.length : Int) (i : Int) (List.getD t.2.2 i []) ((List.getD t.2.2 i []).length : Int) 0 = K0 ((List.getD t.2.2 i []).foldl celF s) t.2.2 (t.2.2.length : Int) (i : Int) := by
  obtain ⟨h1, _, _, _, h5⟩ := good_tab hg
  have hrow := h5 (List.getD t.2.2 i []) (by rw [getD_lt hi]; exact List.getElem_mem hi)
  refine loop_text0 (fun m j s => impl_tableText_l1 k K0 m s t.2.2 (t.2.2.length : Int) (i : Int) (List.getD t.2.2 i []) ((List.getD t.2.2 i []).length : Int) (j : Int)) (List.getD t.2.2 i []) celF 21 100000 (fun s => K0 s t.2.2 (t.2.2.length : Int) (i : Int)) (fun s x hx => celF_size (hrow.2 x hx) s) ?_ ?_ hs (by omega)
  · intro m j s hj hsz
    show impl_tableText_l1 k K0 (m + 1) s t.2.2 (t.2.2.length : Int) (i : Int) (List.getD t.2.2 i []) _ (j : Int) = impl_tableText_l1 k K0 m _ t.2.2 (t.2.2.length : Int) (i : Int) (List.getD t.2.2 i []) _ ((j + 1 : Nat) : Int)
    have c1 := hrow.2 _ (List.getElem_mem hj)
    have e1 := itoaB_size (n := (List.getD t.2.2 i [])[j]) (by omega)
    rw [impl_tableText_l1, dlt, d0, decide_eq_true hj, toNatC, getD_lt hj, wsucc (by omega)]
    repeat (first | rw [gok (by first | omega | (simp only [ByteArray.size_append, sz_lit, List.length_cons, List.length_nil]; omega))] | rw [Itoa_eq (by omega)])
    rfl
  · intro m s _
    show impl_tableText_l1 k K0 (m + 1) s t.2.2 (t.2.2.length : Int) (i : Int) (List.getD t.2.2 i []) _ ((List.getD t.2.2 i []).length : Int) = _
    rw [impl_tableText_l1, dlt, decide_eq_false (by omega)]; rfl
theorem tableText_l2_eq {k q : Nat} (hk : 100 ≤ k) (hq : t.2.2.length < q) (K0 : ByteArray → Option R) : impl_tableText_l2 k K0 q (tabD t) t.2.2 (t.2.2.length : Int) 0 = K0 (tabZ t) := by
  obtain ⟨h1, _⟩ := good_tab hg
  have hn := rows_len hg
  refine loop_text0 (fun m i s => impl_tableText_l2 k K0 m s t.2.2 (t.2.2.length : Int) (i : Int)) t.2.2 rowF 169 384 K0 (rows_size hg) ?_ ?_ (tabD_size hg) hq
  · intro m i s hi hsz
    show impl_tableText_l2 k K0 (m + 1) s t.2.2 (t.2.2.length : Int) (i : Int) = impl_tableText_l2 k K0 m (rowF s t.2.2[i]) t.2.2 (t.2.2.length : Int) ((i + 1 : Nat) : Int)
    have hz := rows_size hg s _ (List.getElem_mem hi)
    unfold rowF at hz
    rw [ByteArray.size_append] at hz
    have e : (nl : ByteArray).size = 1 := rfl
    rw [impl_tableText_l2, dlt, d0, decide_eq_true hi, toNatC, tableText_l1_eq hg hk hi (by omega) (by omega), getD_lt hi, gok (by show _ + (nl : ByteArray).size ≤ _; omega), wsucc (by omega)]
    rfl
  · intro m s _
    show impl_tableText_l2 k K0 (m + 1) s t.2.2 (t.2.2.length : Int) (t.2.2.length : Int) = _
    rw [impl_tableText_l2, dlt, decide_eq_false (by omega)]; rfl
theorem tableText_eq (K : ByteArray → Option R) : impl_tableText 4194304 t K = K (tabZ t) := by
  obtain ⟨h1, hd, _⟩ := good_tab hg
  have hn := rows_len hg
  have hz := tabH_size hg
  have e1 := itoaB_size (n := t.2.1) (by omega)
  unfold impl_tableText
  rw [tableText_l0_eq hg (by omega) (by omega)]
  repeat (first | rw [gok (by first | omega | (simp only [ByteArray.size_append, sz_lit, List.length_cons, List.length_nil]; omega)), cond_true] | rw [words1 (by first | omega | (simp only [ByteArray.size_append, sz_lit, List.length_cons, List.length_nil]; omega)) (by omega)])
  have e : tabH t ++ (((⟨#[32, 100, 105, 99, 101]⟩ : ByteArray) ++ (sp ++ itoaB t.2.1)) ++ (⟨#[10]⟩ : ByteArray)) = tabD t := by
    apply toL_inj
    unfold tabD
    simp only [toL_app, toL_lit, List.append_assoc, List.cons_append, List.nil_append]
  rw [e]
  exact tableText_l2_eq hg (by omega) (by omega) K

end
/-! ### maps -/
section
variable {m : MapT} (hg : good m = true) (hs : small m)
include hg hs
end
end
end Go.Lg
/- Splitting and reading, in plain words: what both sides do. -/
set_option linter.unusedSimpArgs false
set_option linter.unusedVariables false
namespace Go.Lg
open Go Go.Ev
section
variable {R α σ ι : Type}
/-! ### splitting at a byte -/
def splL (b : UInt8) : List UInt8 → List (List UInt8)
  | [] => [[]]
  | c :: l => if c = b then [] :: splL b l else match splL b l with
    | [] => [[c]]
    | p :: ps => (c :: p) :: ps
theorem splL_ne (b : UInt8) : ∀ l, splL b l ≠ []
  | [] => by simp [splL]
  | c :: l => by
    unfold splL
    split
    · simp
    · split <;> simp
theorem splL_none {b : UInt8} : ∀ {p : List UInt8}, b ∉ p → splL b p = [p]
  | [], _ => rfl
  | c :: p, h => by
    have h1 : c ≠ b := fun e => h (e ▸ List.mem_cons_self)
    have h2 : b ∉ p := fun e => h (List.mem_cons_of_mem _ e)
    rw [splL, if_neg h1, splL_none h2]
theorem splL_app {b : UInt8} : ∀ {p rest : List UInt8}, b ∉ p → splL b (p ++ b :: rest) = p :: splL b rest
  | [], rest, _ => by rw [List.nil_append, splL, if_pos rfl]
  | c :: p, rest, h => by
    have h1 : c ≠ b := fun e => h (e ▸ List.mem_cons_self)
    have h2 : b ∉ p := fun e => h (List.mem_cons_of_mem _ e)
    rw [List.cons_append, splL, if_neg h1, splL_app h2]
theorem splL_len (b : UInt8) : ∀ l, (splL b l).length ≤ l.length + 1
  | [] => by simp [splL]
  | c :: l => by
    have ih := splL_len b l
    unfold splL
    split
    · simp only [List.length_cons]; omega
    · split
      · simp
      · rename_i p ps h
        rw [h] at ih
        simp only [List.length_cons] at ih ⊢; omega
theorem splL_flat (b : UInt8) : ∀ l, (splL b l).flatten.length ≤ l.length
  | [] => by simp [splL]
  | c :: l => by
    have ih := splL_flat b l
    unfold splL
    split
    · simp only [List.flatten_cons, List.nil_append, List.length_cons]; omega
    · split
      · simp
      · rename_i p ps h
        rw [h] at ih
        simp only [List.flatten_cons, List.length_append, List.length_cons] at ih ⊢; omega
def mkB (l : List UInt8) : ByteArray := ⟨l.toArray⟩
theorem toL_mkB (l : List UInt8) : toL (mkB l) = l := rfl
theorem mkB_toL (s : ByteArray) : mkB (toL s) = s := toL_inj (toL_mkB _)
/-- The pieces. -/
def spV (s : ByteArray) (b : UInt8) : List ByteArray := (splL b (toL s)).map mkB
theorem toL_len (s : ByteArray) : (toL s).length = s.size := rfl
theorem toL_extract (s : ByteArray) (a c : Nat) : toL (ByteArray.extract s a c) = ((toL s).take c).drop a := by
  unfold toL
  rw [ByteArray.data_extract]
  simp [List.drop_take]
theorem byteAt_toL {s : ByteArray} {i : Nat} (h : i < (toL s).length) : byteAt s (i : Int) = (((toL s)[i]'h).toNat : Int) := by
  have h : i < s.data.size := h
  unfold byteAt toL
  rw [toNatC]
  congr 1
  rw [Array.getD_eq_getD_getElem?, Array.getElem?_eq_getElem h]
  rfl
theorem l1Split_l0_eq {k : Nat} {s : ByteArray} {b : UInt8} (hb : s.size ≤ 1000000000) (K : List ByteArray → Option R) (F : ByteArray → Int → List ByteArray → Option R)
    (hF : ∀ (f : Nat) (out : List ByteArray), f ≤ s.size → out.length ≤ s.size → F s (f : Int) out = K (out ++ [ByteArray.extract s f s.size])) : ∀ (q i f : Nat) (out : List ByteArray), i ≤ s.size → f ≤ i → (∀ j, f ≤ j → j < i → (toL s)[j]? ≠ some b) → out.length ≤ i → s.size - i < q →
    spec_l1Split_l0 k F q s (b.toNat : Int) (f : Int) (i : Int) out = K (out ++ (splL b ((toL s).drop f)).map mkB) := by
  intro q
  induction q with
  | zero => intro i f out h1 h2 h3 h4 h5; omega
  | succ q ih =>
    intro i f out h1 h2 h3 h4 h5
    rw [spec_l1Split_l0]
    rcases Nat.lt_or_ge i s.size with h | h
    · have hin : i < (toL s).length := h
      rw [dlt, decide_eq_true h, d0, byteAt_toL hin]
      by_cases he : (toL s)[i]'hin = b
      · rw [decide_eq_true (by rw [he] : (((toL s)[i]'hin).toNat : Int) = (b.toNat : Int))]
        have hp : toL (ByteArray.extract s f i) = ((toL s).drop f).take (i - f) := by rw [toL_extract, List.drop_take]
        have hnot : b ∉ ((toL s).drop f).take (i - f) := by
          intro hm
          obtain ⟨j, hj, e⟩ := List.getElem_of_mem hm
          rw [List.length_take, List.length_drop] at hj
          rw [List.getElem_take, List.getElem_drop] at e
          refine h3 (f + j) (by omega) (by omega) ?_
          rw [List.getElem?_eq_getElem (by omega), e]
        have hsp : (toL s).drop f = ((toL s).drop f).take (i - f) ++ b :: (toL s).drop (i + 1) := by
          conv => lhs; rw [← List.take_append_drop (i - f) ((toL s).drop f)]
          congr 1
          rw [List.drop_drop, show f + (i - f) = i by omega, List.drop_eq_getElem_cons hin, he]
        rw [d0, dle, dle, decide_eq_true (by omega : f ≤ i), decide_eq_true (by omega : i ≤ s.size), toNatC, toNatC, wsucc (by omega), decide_eq_true (p := out.length + [ByteArray.extract s f i].length ≤ maxGrow) (by unfold maxGrow; simp; omega)]
        simp only [Bool.and_self, cond_true]
        rw [ih (i + 1) (i + 1) _ (by omega) (Nat.le_refl _) (fun j g1 g2 => by omega) (by simp; omega) (by omega), hsp, splL_app hnot, List.map_cons, List.append_assoc]
        congr 2
        show [_] ++ _ = _
        rw [List.singleton_append]
        congr 1
        exact toL_inj (by rw [hp, toL_mkB])
      · rw [decide_eq_false (fun e => he (UInt8.toNat_inj.1 (by omega))), wsucc (by omega)]
        simp only [Bool.and_self, cond_true, cond_false]
        exact ih (i + 1) f out (by omega) (by omega) (fun j g1 g2 => by
          rcases Nat.lt_or_ge j i with h6 | h6
          · exact h3 j g1 h6
          · have : j = i := by omega
            subst this
            rw [List.getElem?_eq_getElem hin]
            intro e; injection e with e; exact he e) (by omega) (by omega)
    · have hi : i = s.size := by omega
      subst hi
      rw [dlt, decide_eq_false (by omega), cond_false, hF f out (by omega) (by omega)]
      have hnot : b ∉ (toL s).drop f := by
        intro hm
        obtain ⟨j, hj, e⟩ := List.getElem_of_mem hm
        rw [List.length_drop, toL_len] at hj
        rw [List.getElem_drop] at e
        refine h3 (f + j) (by omega) (by omega) ?_
        rw [List.getElem?_eq_getElem (by rw [toL_len]; omega), e]
      rw [splL_none hnot]
      congr 2
      show [_] = [_]
      congr 1
      exact toL_inj (by rw [toL_extract, toL_mkB, List.take_of_length_le (by rw [toL_len]; exact Nat.le_refl _)])
theorem l1Split_eq {k : Nat} {s : ByteArray} (b : UInt8) (hb : s.size ≤ 1000000000) (hk : s.size < k) (K : List ByteArray → Option R) : spec_l1Split k s (b.toNat : Int) K = K (spV s b) := by
  unfold spec_l1Split
  have := l1Split_l0_eq (k := k) (b := b) hb K (fun (s1 : ByteArray) (from_0 : Int) (out0 : List ByteArray) => bif decide ((0 : Int) ≤ from_0) && decide (from_0 ≤ ((ByteArray.size s1 : Nat) : Int)) then
      bif decide (List.length out0 + List.length [ByteArray.extract s1 (Int.toNat from_0) (ByteArray.size s1)] ≤ maxGrow) then
        K (out0 ++ [ByteArray.extract s1 (Int.toNat from_0) (ByteArray.size s1)])
      else
        none
    else
      none) (fun f out h1 h2 => by
        rw [d0, dle, decide_eq_true h1, toNatC, decide_eq_true (by unfold maxGrow; simp; omega)]; rfl) k 0 0 [] (Nat.zero_le _) (Nat.le_refl _) (fun j _ h => by omega) (Nat.zero_le _) (by omega)
  exact this
/-! ### the library's Split at one byte -/
theorem index_app {b : UInt8} : ∀ {p : List UInt8} {r : List UInt8}, b ∉ p → Lib.index (p ++ b :: r) [b] = (p.length : Int)
  | [], r, _ => by rw [List.nil_append, Lib.index]; simp [List.isPrefixOf]
  | c :: p, r, h => by
    have h1 : c ≠ b := fun e => h (e ▸ List.mem_cons_self)
    have h2 : b ∉ p := fun e => h (List.mem_cons_of_mem _ e)
    have ih := index_app (r := r) h2
    rw [List.cons_append, Lib.index, ih]
    have hp : ([b] : List UInt8).isPrefixOf (c :: (p ++ b :: r)) = false := by simp [List.isPrefixOf, Ne.symm h1]
    rw [hp, if_neg (by simp), if_neg (by simp)]
    simp
theorem splitK_one (b : UInt8) : ∀ (n : Nat) (l : List UInt8), l.count b = n → Lib.splitK [b] 0 n l = splL b l
  | 0, l, h => by rw [splL_none (List.count_eq_zero.1 h)]; rfl
  | n + 1, l, h => by
    have hm : b ∈ l := List.count_pos_iff.1 (by omega)
    obtain ⟨p, r, rfl, hp⟩ := List.eq_append_cons_of_mem hm
    rw [List.count_append, List.count_eq_zero.2 hp, List.count_cons_self] at h
    have hi := index_app (r := r) hp
    rw [Lib.splitK, hi, if_neg (by simp), splL_app hp, Int.toNat_natCast]
    congr 1
    · simp
    · rw [← splitK_one b n r (by omega)]
      congr 1
      rw [List.length_singleton, List.drop_append, List.drop_of_length_le (by omega)]
      simp
theorem splitV_eq (s : ByteArray) (b : UInt8) : splitV s (⟨#[b]⟩ : ByteArray) = spV s b := by
  have h1 := Lib.splitB_data (⟨#[b]⟩ : ByteArray) 0 (Lib.countB s (⟨#[b]⟩ : ByteArray)) s
  have h2 : Lib.countB s (⟨#[b]⟩ : ByteArray) = (toL s).count b := Lib.count_one b (toL s)
  have h3 : (splitV s (⟨#[b]⟩ : ByteArray)).map toL = splL b (toL s) := by
    refine h1.trans ?_
    rw [h2]
    exact splitK_one b _ (toL s) rfl
  unfold spV
  rw [← h3, List.map_map]
  conv => lhs; rw [← List.map_id (splitV s (⟨#[b]⟩ : ByteArray))]
  exact List.map_congr_left fun x _ => (mkB_toL x).symm
theorem spV_len (s : ByteArray) (b : UInt8) : 1 ≤ (spV s b).length ∧ (spV s b).length ≤ s.size + 1 := by
  have h1 := splL_len b (toL s)
  have h2 : (spV s b).length = (splL b (toL s)).length := by unfold spV; rw [List.length_map]
  have h3 : (splL b (toL s)).length ≠ 0 := fun e => splL_ne b _ (List.length_eq_zero_iff.1 e)
  rw [toL_len] at h1
  omega
theorem mem_flat_len {x : List UInt8} : ∀ {ls : List (List UInt8)}, x ∈ ls → x.length ≤ ls.flatten.length
  | y :: ls, h => by
    rw [List.flatten_cons, List.length_append]
    rcases List.mem_cons.1 h with rfl | h
    · omega
    · have := mem_flat_len h; omega
theorem spV_size {s : ByteArray} {b : UInt8} {x : ByteArray} (h : x ∈ spV s b) : x.size ≤ s.size := by
  unfold spV at h
  obtain ⟨l, hl, rfl⟩ := List.mem_map.1 h
  have h1 := mem_flat_len hl
  have h2 := splL_flat b (toL s)
  rw [toL_len] at h2
  show (mkB l).size ≤ _
  rw [← toL_len, toL_mkB]
  omega
/-! ### numbers -/
def digW (c : UInt8) : Int := IntKind.wrap .i64 (IntKind.wrap .u8 ((c.toNat : Int) - 48))
def rdL : List UInt8 → Int → Int
  | [], n => n
  | c :: l, n => if (c.toNat : Int) < 48 then -1 else if 57 < (c.toNat : Int) then -1 else rdL l (IntKind.wrap .i64 (IntKind.wrap .i64 (10 * n) + digW c))
def rdV (l : List UInt8) : Int := if inB (l.length : Int) 1 6 = true then (if (l.getD 0 0).toNat = 48 ∧ 1 < l.length then -1 else rdL l 0) else -1
theorem l1Read_l0_eq {k : Nat} {s : ByteArray} (hb : s.size ≤ 1000000000) (K : Int → Option R) : ∀ (q i : Nat) (n : Int), i ≤ s.size → s.size - i < q → spec_l1Read_l0 k (fun n => K n) (fun x => K x) q s n (i : Int) = K (rdL ((toL s).drop i) n) := by
  intro q
  induction q with
  | zero => intro i n h1 h2; omega
  | succ q ih =>
    intro i n h1 h2
    rw [spec_l1Read_l0]
    rcases Nat.lt_or_ge i s.size with h | h
    · have hin : i < (toL s).length := h
      rw [dlt, decide_eq_true h, d0, byteAt_toL hin, List.drop_eq_getElem_cons hin, rdL]
      by_cases c1 : (((toL s)[i]'hin).toNat : Int) < 48
      · rw [decide_eq_true c1, if_pos c1]; rfl
      · by_cases c2 : 57 < (((toL s)[i]'hin).toNat : Int)
        · rw [decide_eq_false c1, if_neg c1, decide_eq_true c2, if_pos c2]; rfl
        · rw [decide_eq_false c1, if_neg c1, decide_eq_false c2, if_neg c2, wsucc (by omega)]
          exact ih (i + 1) _ (by omega) (by omega)
    · have hi : i = s.size := by omega
      subst hi
      rw [dlt, decide_eq_false (by omega), List.drop_of_length_le (by rw [toL_len]; exact Nat.le_refl _)]; rfl
theorem l1Read_eq {k : Nat} {s : ByteArray} (hb : s.size ≤ 1000000000) (hk : s.size < k) (K : Int → Option R) : spec_l1Read k s K = K (rdV (toL s)) := by
  unfold spec_l1Read rdV
  rw [l1In_eq, toL_len]
  cases h : inB (s.size : Int) 1 6
  · rfl
  · rw [inB_iff] at h
    have h0 : 0 < (toL s).length := by rw [toL_len]; omega
    have hb0 : byteAt s 0 = (((toL s).getD 0 0).toNat : Int) := by
      rw [getD_lt h0]; exact byteAt_toL (i := 0) h0
    have hl := l1Read_l0_eq (k := k) hb K k 0 0 (Nat.zero_le _) (by omega)
    rw [List.drop_zero] at hl
    rw [decide_eq_true (by omega : (0 : Int) < (s.size : Int)), hb0, Bool.not_true, cond_false, cond_true, if_pos rfl]
    by_cases c1 : ((toL s).getD 0 0).toNat = 48
    · rw [decide_eq_true (by omega : (((toL s).getD 0 0).toNat : Int) = 48), cond_true]
      by_cases c2 : 1 < s.size
      · rw [decide_eq_true (by omega : (1 : Int) < (s.size : Int)), if_pos ⟨c1, c2⟩]; rfl
      · rw [decide_eq_false (by omega : ¬ (1 : Int) < (s.size : Int)), if_neg (fun h => c2 h.2)]
        exact hl
    · rw [decide_eq_false (by omega : ¬ (((toL s).getD 0 0).toNat : Int) = 48), if_neg (fun h => c1 h.1)]
      exact hl
theorem rdV_back : ∀ n < 301, rdV (toL (itoaB ((n : Nat) : Int))) = ((n : Nat) : Int) := by decide +kernel
theorem readIV_back : ∀ n < 301, readIV (itoaB ((n : Nat) : Int)) = (((n : Nat) : Int), true) := by decide +kernel
theorem readInt_eq {s : ByteArray} (h : s.size ≤ 1000000000) (K : Int → Bool → Option R) : impl_readInt s K = K (readIV s).1 (readIV s).2 := by
  unfold impl_readInt
  rw [decide_eq_true (by omega)]; rfl
theorem Split_eq {s : ByteArray} (b : UInt8) (h : s.size ≤ 100000000) (K : List ByteArray → Option R) : strings_Split s (⟨#[b]⟩ : ByteArray) K = K (spV s b) := by
  unfold strings_Split
  rw [splitV_eq, decide_eq_true (by omega : ByteArray.size s < 4294967281)]; rfl
end
end Go.Lg
set_option linter.unusedVariables false
namespace Go.Lg
open Go Go.Ev
end Go.Lg
/- Marks; disks, rings, walks, what is near: the laws. -/
set_option linter.unusedSimpArgs false
set_option linter.unusedVariables false
namespace Go.Lg
open Go Go.Ev
section
variable {R α σ : Type}
theorem set_at {l r : List α} {x y : α} {n : Nat} (h : l.length = n) : (l ++ x :: r).set n y = l ++ y :: r := by
  subst h
  rw [List.set_append_right _ _ (Nat.le_refl _), Nat.sub_self]; rfl
theorem getD_at {l r : List α} {x d : α} {n : Nat} (h : l.length = n) : (l ++ x :: r).getD n d = x := by
  subst h
  rw [List.getD_eq_getElem?_getD, List.getElem?_append_right (Nat.le_refl _), Nat.sub_self]; rfl
/-! ### marks of hexes -/
/-! ### marks of numbers -/
def mI (k0 : Int) (n : Nat) : List Int := (List.range n).map fun (i : Nat) => k0 + (i : Int)
theorem mI_len (k0 : Int) (n : Nat) : (mI k0 n).length = n := by simp [mI]
theorem mI_succ (k0 : Int) (n : Nat) : mI k0 (n + 1) = mI k0 n ++ [k0 + (n : Int)] := by unfold mI; rw [List.range_succ, List.map_append]; rfl
end
end Go.Lg
/- What is near on a map; disks: the laws. -/
set_option linter.unusedSimpArgs false
set_option linter.unusedVariables false
namespace Go.Lg
open Go Go.Ev
section
variable {R α σ : Type}
/-! ### near on a map -/
section
variable {m : MapT} (hg : good m = true) {i rad : Int} (hi : 0 ≤ i ∧ i ≤ 99)
include hg hi
end
end
end Go.Lg
/- Disks: the law. -/
set_option linter.unusedSimpArgs false
set_option linter.unusedVariables false
namespace Go.Lg
open Go Go.Ev
section
variable {R α σ : Type}
section
variable {h : Int × Int} (hh : okHex h = true) {rad : Int} (hr : 0 ≤ rad ∧ rad ≤ 6)
include hh hr
end
end
end Go.Lg
/- Walks and rings: the laws. -/
set_option linter.unusedSimpArgs false
set_option linter.unusedVariables false
namespace Go.Lg
open Go Go.Ev
section
variable {R α σ : Type}
/-! ### walks -/
end
end Go.Lg
/- Rings: the law. -/
set_option linter.unusedSimpArgs false
set_option linter.unusedVariables false
namespace Go.Lg
open Go Go.Ev
section
variable {R α σ : Type}
section
variable {rad : Int} (hr : 0 ≤ rad ∧ rad ≤ 6)
include hr
end
end
end Go.Lg
/- Lines: the law. -/
set_option linter.unusedSimpArgs false
set_option linter.unusedVariables false
namespace Go.Lg
open Go Go.Ev
section
variable {R α σ ι : Type}
/-! ### marks of rows of rows -/
def fS (f : Int → α → α) (c : α → Nat) : Int → List α → List α
  | _, [] => []
  | k, x :: l => f k x :: fS f c (k + c x) l
def cS (c : α → Nat) : List α → Nat
  | [] => 0
  | x :: l => c x + cS c l
theorem fS_len (f : Int → α → α) (c : α → Nat) : ∀ (k : Int) (l : List α), (fS f c k l).length = l.length
  | _, [] => rfl
  | k, x :: l => by simp [fS, fS_len f c (k + c x) l]
theorem loop_mark (f : Int → α → α) (c : α → Nat) (L : Nat → Int → Nat → List α → Option R) (fin : Int → List α → Option R) (P : α → Prop)
    (hs : ∀ m (k : Int) x (pre r : List α), P x → 0 ≤ k → k + c x ≤ 4000000000000000 → pre.length + (x :: r).length ≤ 137438953472 → L (m + 1) k pre.length (pre ++ x :: r) = L m (k + c x) (pre.length + 1) (pre ++ f k x :: r))
    (he : ∀ m k s, s.length ≤ 137438953472 → L (m + 1) k s.length s = fin k s) : ∀ (m : Nat) (pre r : List α) (k : Int), (∀ x ∈ r, P x) → 0 ≤ k → k + cS c r ≤ 4000000000000000 → pre.length + r.length ≤ 137438953472 → r.length < m → L m k pre.length (pre ++ r) = fin (k + cS c r) (pre ++ fS f c k r) := by
  intro m
  induction m with
  | zero => intro pre r k _ _ _ _ h; omega
  | succ m ih =>
    intro pre r k hP h0 hb hl hm
    cases r with
    | nil =>
      rw [List.append_nil, he m k pre (by simpa using hl)]
      simp [cS, fS]
    | cons x r =>
      simp only [cS] at hb ⊢
      simp only [List.length_cons] at hm hl
      rw [hs m k x pre r (hP x (by simp)) h0 (by omega) (by simpa using hl)]
      have := ih (pre ++ [f k x]) r (k + c x) (fun y hy => hP y (by simp [hy])) (by omega) (by omega) (by simp; omega) (by omega)
      simp only [List.length_append, List.length_cons, List.length_nil, List.append_assoc, List.cons_append, List.nil_append] at this
      rw [this]
      simp only [fS]
      congr 1
      omega
theorem loop_held (f : Int → α → α) (c : α → Nat) (l : List α) (L : Nat → Int → Nat → Option R) (fin : Int → Option R) (P : α → Prop) (hl : l.length ≤ 137438953472)
    (hs : ∀ m (k : Int) x (pre r : List α), P x → 0 ≤ k → k + c x ≤ 4000000000000000 → l = pre ++ f k x :: r → L (m + 1) k pre.length = L m (k + c x) (pre.length + 1))
    (he : ∀ m k, L (m + 1) k l.length = fin k) : ∀ (m : Nat) (pre r : List α) (k : Int), l = pre ++ fS f c k r → (∀ x ∈ r, P x) → 0 ≤ k → k + cS c r ≤ 4000000000000000 → r.length < m → L m k pre.length = fin (k + cS c r) := by
  intro m
  induction m with
  | zero => intro pre r k _ _ _ _ h; omega
  | succ m ih =>
    intro pre r k e hP h0 hb hm
    cases r with
    | nil =>
      have e2 : l.length = pre.length := by rw [e]; simp [fS]
      rw [← e2, he m k]
      simp [cS]
    | cons x r =>
      simp only [cS] at hb ⊢
      simp only [List.length_cons] at hm
      simp only [fS] at e
      rw [hs m k x pre (fS f c (k + c x) r) (hP x (by simp)) h0 (by omega) e]
      have := ih (pre ++ [f k x]) r (k + c x) (by simpa using e) (fun y hy => hP y (by simp [hy])) (by omega) (by omega) (by omega)
      simp only [List.length_append, List.length_cons, List.length_nil] at this
      rw [this]
      congr 1
      omega
def mHk (k0 : Int) (n : Nat) : List (Int × Int) := (List.range n).map fun (i : Nat) => (k0 + 2 * (i : Int), k0 + 1 + 2 * (i : Int))
theorem mHk_len (k0 : Int) (n : Nat) : (mHk k0 n).length = n := by simp [mHk]
theorem mHk_succ (k0 : Int) (n : Nat) : mHk k0 (n + 1) = mHk k0 n ++ [(k0 + 2 * (n : Int), k0 + 1 + 2 * (n : Int))] := by unfold mHk; rw [List.range_succ, List.map_append]; rfl
theorem markHexS_k {k : Nat} (a : List (Int × Int)) (k0 : Int) (hk : 0 ≤ k0 ∧ k0 + 2 * a.length ≤ 4000000000000000) (h : a.length < k) (hb : a.length ≤ 137438953472) (K : List (Int × Int) → Int → Option R) : laws_markHexS_in k a k0 K = K (mHk k0 a.length) (k0 + 2 * (a.length : Int)) := by
  unfold laws_markHexS_in
  have h0 : a = mHk k0 0 ++ a.drop 0 := by simp [mHk]
  conv => lhs; rw [h0]
  have e0 : k0 = k0 + 2 * ((0 : Nat) : Int) := by omega
  conv => lhs; arg 4; rw [e0]
  refine loop_det (fun m i s => laws_markHexS_in_l0 k (fun x y => K y x) m (k0 + 2 * (i : Int)) (i : Int) s) a.length (fun i => mHk k0 i ++ a.drop i) _ ?_ ?_ k 0 (Nat.zero_le _) (by omega)
  · intro m i hi
    show laws_markHexS_in_l0 k _ (m + 1) (k0 + 2 * (i : Int)) (i : Int) (mHk k0 i ++ a.drop i) = laws_markHexS_in_l0 k _ m (k0 + 2 * ((i + 1 : Nat) : Int)) ((i + 1 : Nat) : Int) (mHk k0 (i + 1) ++ a.drop (i + 1))
    have hl : (mHk k0 i ++ a.drop i).length = a.length := by rw [List.length_append, mHk_len, List.length_drop]; omega
    rw [laws_markHexS_in_l0, hl, dlt, d0, decide_eq_true hi, toNatC, wsucc (by omega), List.drop_eq_getElem_cons hi, set_at (mHk_len k0 i), getD_at (mHk_len k0 i), getD_at (mHk_len k0 i), set_at (mHk_len k0 i)]
    have hl2 : (mHk k0 i ++ (k0 + 2 * (i : Int), a[i].2) :: a.drop (i + 1)).length = a.length := by rw [List.length_append, mHk_len, List.length_cons, List.length_drop]; omega
    rw [hl2, dlt, decide_eq_true hi, w64 (n := k0 + 2 * (i : Int) + 1) (by omega), w64 (by omega), mHk_succ, List.append_assoc, show k0 + 2 * (i : Int) + 1 + 1 = k0 + 2 * ((i + 1 : Nat) : Int) by omega, show k0 + 2 * (i : Int) + 1 = k0 + 1 + 2 * (i : Int) by omega]
    rfl
  · intro m
    have hl : (mHk k0 a.length ++ a.drop a.length) = mHk k0 a.length := by rw [List.drop_length, List.append_nil]
    show laws_markHexS_in_l0 k _ (m + 1) (k0 + 2 * (a.length : Int)) (a.length : Int) (mHk k0 a.length ++ a.drop a.length) = _
    rw [hl, laws_markHexS_in_l0, mHk_len, dlt, decide_eq_false (by omega)]; rfl
theorem heldHexS_k {k : Nat} (k0 : Int) (n : Nat) (hk : 0 ≤ k0 ∧ k0 + 2 * n ≤ 4000000000000000) (h : n < k) (hb : n ≤ 137438953472) (K : Int → Option R) : laws_heldHexS k (mHk k0 n) k0 K = K (k0 + 2 * (n : Int)) := by
  unfold laws_heldHexS
  have e0 : k0 = k0 + 2 * ((0 : Nat) : Int) := by omega
  conv => lhs; arg 6; rw [e0]
  refine loop_det (fun m i s => laws_heldHexS_l0 k (fun x => K x) (fun x => K x) m (mHk k0 n) s (i : Int)) n (fun i => k0 + 2 * (i : Int)) _ ?_ ?_ k 0 (Nat.zero_le _) (by omega)
  · intro m i hi
    show laws_heldHexS_l0 k _ _ (m + 1) (mHk k0 n) (k0 + 2 * (i : Int)) (i : Int) = laws_heldHexS_l0 k _ _ m (mHk k0 n) (k0 + 2 * ((i + 1 : Nat) : Int)) ((i + 1 : Nat) : Int)
    have e : (mHk k0 n).getD i (0, 0) = (k0 + 2 * (i : Int), k0 + 1 + 2 * (i : Int)) := by
      rw [getD_lt (by rw [mHk_len]; exact hi)]; simp [mHk]
    rw [laws_heldHexS_l0, mHk_len, dlt, d0, decide_eq_true hi, toNatC, wsucc (by omega), e, decide_eq_true rfl, w64 (n := k0 + 2 * (i : Int) + 1) (by omega), w64 (by omega), decide_eq_true (by show k0 + 1 + 2 * (i : Int) = k0 + 2 * (i : Int) + 1; omega), show k0 + 2 * (i : Int) + 1 + 1 = k0 + 2 * ((i + 1 : Nat) : Int) by omega]
    rfl
  · intro m
    show laws_heldHexS_l0 k _ _ (m + 1) (mHk k0 n) (k0 + 2 * (n : Int)) (n : Int) = _
    rw [laws_heldHexS_l0, mHk_len, dlt, decide_eq_false (by omega)]; rfl
end
end Go.Lg
/- Marks of tables, rules, boards. -/
set_option linter.unusedSimpArgs false
set_option linter.unusedVariables false
namespace Go.Lg
open Go Go.Ev
section
variable {R α σ ι : Type}
theorem set_at' {l r : List α} {x y : α} : (l ++ x :: r).set l.length y = l ++ y :: r := set_at rfl
theorem getD_at' {l r : List α} {x d : α} : (l ++ x :: r).getD l.length d = x := getD_at rfl
theorem len_at {l r : List α} {x : α} : (l ++ x :: r).length = l.length + (r.length + 1) := by simp
theorem lt_at {a b : Nat} : decide ((a : Int) < ((a + (b + 1) : Nat) : Int)) = true := decide_eq_true (by omega)
/-! ### rows of numbers -/
theorem markIntS_k {k : Nat} (a : List Int) (k0 : Int) (hk : 0 ≤ k0 ∧ k0 + a.length ≤ 4000000000000000) (h : a.length < k) (hb : a.length ≤ 137438953472) (K : List Int → Int → Option R) : laws_markIntS_in k a k0 K = K (mI k0 a.length) (k0 + (a.length : Int)) := by
  unfold laws_markIntS_in
  have h0 : a = mI k0 0 ++ a.drop 0 := by simp [mI]
  conv => lhs; rw [h0]
  have e0 : k0 = k0 + ((0 : Nat) : Int) := by omega
  conv => lhs; arg 4; rw [e0]
  refine loop_det (fun m i s => laws_markIntS_in_l0 k (fun x y => K y x) m (k0 + (i : Int)) (i : Int) s) a.length (fun i => mI k0 i ++ a.drop i) _ ?_ ?_ k 0 (Nat.zero_le _) (by omega)
  · intro m i hi
    show laws_markIntS_in_l0 k _ (m + 1) (k0 + (i : Int)) (i : Int) (mI k0 i ++ a.drop i) = laws_markIntS_in_l0 k _ m (k0 + ((i + 1 : Nat) : Int)) ((i + 1 : Nat) : Int) (mI k0 (i + 1) ++ a.drop (i + 1))
    have hl : (mI k0 i ++ a.drop i).length = a.length := by rw [List.length_append, mI_len, List.length_drop]; omega
    rw [laws_markIntS_in_l0, hl, dlt, d0, decide_eq_true hi, toNatC, wsucc (by omega), List.drop_eq_getElem_cons hi, set_at (mI_len k0 i), w64 (by omega), mI_succ, List.append_assoc, show k0 + (i : Int) + 1 = k0 + ((i + 1 : Nat) : Int) by omega]
    rfl
  · intro m
    have hl : (mI k0 a.length ++ a.drop a.length) = mI k0 a.length := by rw [List.drop_length, List.append_nil]
    show laws_markIntS_in_l0 k _ (m + 1) (k0 + (a.length : Int)) (a.length : Int) (mI k0 a.length ++ a.drop a.length) = _
    rw [hl, laws_markIntS_in_l0, mI_len, dlt, decide_eq_false (by omega)]; rfl
theorem heldIntS_k {k : Nat} (k0 : Int) (n : Nat) (hk : 0 ≤ k0 ∧ k0 + n ≤ 4000000000000000) (h : n < k) (hb : n ≤ 137438953472) (K : Int → Option R) : laws_heldIntS k (mI k0 n) k0 K = K (k0 + (n : Int)) := by
  unfold laws_heldIntS
  have e0 : k0 = k0 + ((0 : Nat) : Int) := by omega
  conv => lhs; arg 6; rw [e0]
  refine loop_det (fun m i s => laws_heldIntS_l0 k (fun x => K x) (fun x => K x) m (mI k0 n) s (i : Int)) n (fun i => k0 + (i : Int)) _ ?_ ?_ k 0 (Nat.zero_le _) (by omega)
  · intro m i hi
    show laws_heldIntS_l0 k _ _ (m + 1) (mI k0 n) (k0 + (i : Int)) (i : Int) = laws_heldIntS_l0 k _ _ m (mI k0 n) (k0 + ((i + 1 : Nat) : Int)) ((i + 1 : Nat) : Int)
    have e : (mI k0 n).getD i 0 = k0 + (i : Int) := by
      rw [getD_lt (by rw [mI_len]; exact hi)]; simp [mI]
    rw [laws_heldIntS_l0, mI_len, dlt, d0, decide_eq_true hi, toNatC, wsucc (by omega), e, decide_eq_true rfl, w64 (by omega), show k0 + (i : Int) + 1 = k0 + ((i + 1 : Nat) : Int) by omega]
    rfl
  · intro m
    show laws_heldIntS_l0 k _ _ (m + 1) (mI k0 n) (k0 + (n : Int)) (n : Int) = _
    rw [laws_heldIntS_l0, mI_len, dlt, decide_eq_false (by omega)]; rfl
def fI (k : Int) (a : List Int) : List Int := mI k a.length
def cI (a : List Int) : Nat := a.length
theorem markIntSS_k {k : Nat} (a : List (List Int)) (k0 : Int) (h0 : 0 ≤ k0) (hc : k0 + cS cI a ≤ 4000000000000000) (hl : a.length < k) (hb : a.length ≤ 137438953472) (hx : ∀ x ∈ a, x.length < k ∧ x.length ≤ 137438953472) (K : List (List Int) → Int → Option R) : laws_markIntSS_in k a k0 K = K (fS fI cI k0 a) (k0 + (cS cI a : Int)) := by
  unfold laws_markIntSS_in
  refine loop_mark fI cI (fun m k1 i s => laws_markIntSS_in_l0 k (fun k_1 b => K b k_1) m k1 (i : Int) s) (fun k1 s => K s k1) (fun x => x.length < k ∧ x.length ≤ 137438953472) ?_ ?_ k [] a k0 hx h0 hc (by simpa using hb) hl
  · intro m k1 x pre r hx h0 h1 hl
    show laws_markIntSS_in_l0 k _ (m + 1) k1 (pre.length : Int) (pre ++ x :: r) = laws_markIntSS_in_l0 k _ m (k1 + (cI x : Nat)) ((pre.length + 1 : Nat) : Int) (pre ++ fI k1 x :: r)
    simp only [List.length_cons] at hl
    unfold cI at h1
    rw [laws_markIntSS_in_l0, len_at, lt_at, d0, toNatC, wsucc (by omega), getD_at', markIntS_k x k1 ⟨h0, h1⟩ hx.1 hx.2, set_at']
    rfl
  · intro m k1 s hs
    show laws_markIntSS_in_l0 k _ (m + 1) k1 (s.length : Int) s = _
    rw [laws_markIntSS_in_l0, dlt, decide_eq_false (by omega)]; rfl
/-! ### odds -/
theorem markOddsS_hex {k : Nat} (K0 : Int → List (Int × Int) → Option R) : ∀ (m : Nat) (x y : Int) (a : List (Int × Int)), laws_markOddsS_in_l0 k K0 m x y a = laws_markHexS_in_l0 k K0 m x y a
  | 0, _, _, _ => rfl
  | m + 1, x, y, a => by
    rw [laws_markOddsS_in_l0, laws_markHexS_in_l0]
    simp only [markOddsS_hex K0 m]
theorem markOddsS_k {k : Nat} (a : List (Int × Int)) (k0 : Int) (hk : 0 ≤ k0 ∧ k0 + 2 * a.length ≤ 4000000000000000) (h : a.length < k) (hb : a.length ≤ 137438953472) (K : List (Int × Int) → Int → Option R) : laws_markOddsS_in k a k0 K = K (mHk k0 a.length) (k0 + 2 * (a.length : Int)) := by
  have := markHexS_k a k0 hk h hb K
  unfold laws_markHexS_in at this
  unfold laws_markOddsS_in
  rw [markOddsS_hex]
  exact this
theorem cS_bound (c : α → Nat) (B : Nat) : ∀ (l : List α), (∀ x ∈ l, c x ≤ B) → cS c l ≤ B * l.length
  | [], _ => by simp [cS]
  | x :: l, h => by
    have h1 := h x (by simp)
    have h2 := cS_bound c B l (fun y hy => h y (by simp [hy]))
    simp only [cS, List.length_cons, Nat.mul_succ]
    omega
theorem cS_small (c : α → Nat) (l : List α) (hl : l.length ≤ 1048576) (h : ∀ x ∈ l, c x ≤ 1048580) : cS c l ≤ 1099515822080 := by
  have h1 := cS_bound c 1048580 l h
  have h2 : 1048580 * l.length ≤ 1048580 * 1048576 := Nat.mul_le_mul_left _ hl
  omega
def markTab (k : Int) (t : TabT) : TabT := (mHk k t.1.length, t.2.1, fS fI cI (k + 2 * (t.1.length : Int)) t.2.2)
def cTab (t : TabT) : Int := 2 * (t.1.length : Int) + cS cI t.2.2
theorem cTab_le {t : TabT} (hs : smallT t) : 0 ≤ cTab t ∧ cTab t ≤ 1099520000000 := by
  obtain ⟨s1, s2, s3⟩ := hs
  have hc := cS_small cI t.2.2 s2 (fun x hx => by have := s3 x hx; unfold cI; omega)
  unfold cTab
  omega
theorem markTab_eq {t : TabT} (hs : smallT t) (K : TabT → Int → Option R) : laws_markCombatTable_in 4194304 t 1 K = K (markTab 1 t) (1 + cTab t) := by
  obtain ⟨s1, s2, s3⟩ := hs
  have hc := cS_small cI t.2.2 s2 (fun x hx => by have := s3 x hx; unfold cI; omega)
  unfold laws_markCombatTable_in
  rw [markOddsS_k _ _ (by omega) (by omega) (by omega), markIntSS_k _ _ (by omega) (by omega) (by omega) (by omega) (fun x hx => by have := s3 x hx; omega)]
  unfold markTab cTab
  rw [show 1 + 2 * (t.1.length : Int) + (cS cI t.2.2 : Int) = 1 + (2 * (t.1.length : Int) + cS cI t.2.2) by omega]
/-! ### texts -/
/-! ### terrains and kinds -/
/-! ### rules, maps, boards -/
end
end Go.Lg
/- Counts of results; open hexes, unused terrains, stuck kinds: the laws. -/
set_option linter.unusedSimpArgs false
set_option linter.unusedVariables false
namespace Go.Lg
open Go Go.Ev
section
variable {R α σ ι : Type}
section
variable {t : TabT} {c : Int} (hg : goodT t = true) (h2 : 0 ≤ c) (h3 : c ≤ (t.1.length : Int) - 1)
include hg h2 h3
end
/-! ### open hexes -/
section
variable {b : BrdT} (hg : goodB b = true) {kind : Int} (hk : 0 ≤ kind ∧ kind < (b.1.2.1.length : Int))
include hg hk
end
/-! ### unused terrains -/
end
end Go.Lg
/- Stuck kinds: the law. -/
set_option linter.unusedSimpArgs false
set_option linter.unusedVariables false
namespace Go.Lg
open Go Go.Ev
section
variable {R α σ ι : Type}
section
variable {b : BrdT} (hg : goodB b = true) {kind : Int} (hk : 0 ≤ kind ∧ kind < (b.1.2.1.length : Int))
include hg hk
end
end
end Go.Lg
/- Regions: walks over a graph, in plain words. -/
set_option linter.unusedSimpArgs false
set_option linter.unusedVariables false
namespace Go.Lg
open Go Go.Ev
section
variable {R α σ ι : Type}
/-! ### sorting and putting in -/
/-! ### the walk over a graph -/
section
variable (adj : Int → List Int) (op : Int → Bool)
/-- What can be reached. -/
inductive Rc (i : Int) : Int → Prop
  | refl : Rc i i
  | step {c x : Int} : Rc i c → x ∈ adj c → op x = true → Rc i x
variable {adj op}
theorem Rc.trans {a b c : Int} (h1 : Rc adj op a b) (h2 : Rc adj op b c) : Rc adj op a c := by
  induction h2 with
  | refl => exact h1
  | step _ h3 h4 ih => exact .step ih h3 h4
theorem Rc.op_of {a b : Int} (h : Rc adj op a b) (ha : op a = true) : op b = true := by
  cases h with
  | refl => exact ha
  | step _ _ h => exact h
theorem Rc.symm (hs : ∀ c, op c = true → ∀ x ∈ adj c, c ∈ adj x) {a b : Int} (h : Rc adj op a b) (ha : op a = true) : Rc adj op b a := by
  induction h with
  | refl => exact .refl
  | step h1 h3 h4 ih => exact Rc.trans (.step .refl (hs _ (h1.op_of ha) _ h3) (h1.op_of ha)) ih
/-! ### the regions, one after another -/
end
end
end Go.Lg
/- Regions of a board: what the functions answer. -/
set_option linter.unusedSimpArgs false
set_option linter.unusedVariables false
namespace Go.Lg
open Go Go.Ev
section
variable {R α σ ι : Type}
/-! ### a neighbour's neighbour -/
section
variable {b : BrdT} (hg : goodB b = true) {kind : Int} (hk : 0 ≤ kind ∧ kind < (b.1.2.1.length : Int))
include hg
include hk
end
/-! ### the marks of what was seen -/
section
variable {b : BrdT} (hg : goodB b = true) {kind : Int} (hk : 0 ≤ kind ∧ kind < (b.1.2.1.length : Int))
include hg hk
end
end
end Go.Lg
/- The mirrored map: the law. -/
set_option linter.unusedSimpArgs false
set_option linter.unusedVariables false
namespace Go.Lg
open Go Go.Ev
section
variable {R α σ ι : Type}
/-! ### places and edges of the mirrored map -/
section
variable {m : MapT} (hm : mapDim m)
include hm
end
section
variable {m : MapT} (hg : good m = true)
include hg
end
end
end Go.Lg
/- The mirrored board: the law. -/
set_option linter.unusedSimpArgs false
set_option linter.unusedVariables false
namespace Go.Lg
open Go Go.Ev
section
variable {R α σ ι : Type}
/-! ### copies -/
end
end Go.Lg
/- Reading a map: what both sides answer. -/
set_option linter.unusedSimpArgs false
set_option linter.unusedVariables false
namespace Go.Lg
open Go Go.Ev
section
variable {R α σ ι : Type}
def datW (c : UInt8) : Int := IntKind.wrap .i64 (IntKind.wrap .i64 (c.toNat : Int) - 48)
/-! ### the reference's reader -/
def wordsV (line : ByteArray) : List ByteArray := spV line 32
def w0 (line : ByteArray) : ByteArray := (wordsV line).getD 0 (⟨#[]⟩ : ByteArray)
/-! ### the program's reader -/
abbrev zB : ByteArray := ⟨#[]⟩
end
end Go.Lg
/- Reading a map: what was written is read back. -/
set_option linter.unusedSimpArgs false
set_option linter.unusedVariables false
namespace Go.Lg
open Go Go.Ev
section
variable {R α σ ι : Type}
theorem toList_mk (l : List UInt8) : (mkB l).toList = l := by
  unfold mkB
  simp
theorem toList_toL (a : ByteArray) : a.toList = toL a := by
  have := toList_mk (toL a)
  rwa [mkB_toL] at this
theorem toList_inj {a b : ByteArray} (h : (a.toList == b.toList) = true) : a = b := by
  rw [beq_iff_eq, toList_toL, toList_toL] at h
  exact toL_inj h
theorem num_ok : ∀ n < 301, 10 ∉ Lib.itoa ((n : Nat) : Int) ∧ 32 ∉ Lib.itoa ((n : Nat) : Int) := by decide +kernel
theorem num_of {e : Int} (h : 0 ≤ e ∧ e < 301) : 10 ∉ Lib.itoa e ∧ 32 ∉ Lib.itoa e ∧ rdV (Lib.itoa e) = e ∧ readIV (mkB (Lib.itoa e)) = (e, true) := by
  obtain ⟨n, rfl⟩ : ∃ n : Nat, e = (n : Int) := ⟨e.toNat, by omega⟩
  have hn : n < 301 := by omega
  exact ⟨(num_ok n hn).1, (num_ok n hn).2, rdV_back n hn, readIV_back n hn⟩
/-! ### lines of numbers -/
/-! ### the terrain's letters -/
section
variable (m : MapT)
variable {m}
end
/-! ### a valid map's text, line by line -/
section
variable {m : MapT} (hg : good m = true)
include hg
end
end
end Go.Lg
/- Reading a table: the law. -/
set_option linter.unusedSimpArgs false
set_option linter.unusedVariables false
namespace Go.Lg
open Go Go.Ev
section
variable {R α σ ι : Type}
def zTab : TabT := ([], (0, []))
def okT (t : TabT) (x : ByteArray) : Bool := goodT t && ((tabZ t).toList == x.toList)
def rowT (s : ByteArray) : List Int := (toL s).map datW
/-! ### the reference's reader -/
def colS : List ByteArray → Option (List (Int × Int))
  | [] => some []
  | w :: ws => if (spV w 47).length = 2 then (colS ws).map ((rdV (toL ((spV w 47).getD 0 zB)), rdV (toL ((spV w 47).getD 1 zB))) :: ·) else none
theorem colS_len : ∀ {l : List ByteArray} {v : List (Int × Int)}, colS l = some v → v.length = l.length
  | [], v, h => by injection h with h; subst h; rfl
  | s :: l, v, h => by
    unfold colS at h
    split at h
    · obtain ⟨u, hu, rfl⟩ := Option.map_eq_some_iff.1 h
      rw [List.length_cons, List.length_cons, colS_len hu]
    · cases h
theorem kOdds_l0_eq {k : Nat} (hk : 2000000 < k) {x : List ByteArray} (hl : x.length ≤ 1048577) (hx : ∀ s ∈ x, s.size ≤ 1048576) (K0 : Int → Int → List (Int × Int) → List (List Int) → List (Int × Int) → List (List Int) → Option R) (K1 : Bool → Int → List (Int × Int) → List (List Int) → Option R) (x2 t : Int) (b : List (Int × Int)) (b0 b2 : List (List Int)) (Z : Option R) (hZ : ∀ b1, K1 false t b1 b2 = Z) : ∀ (q j : Nat) (out : List (Int × Int)), j ≤ x.length → out.length ≤ j → x.length - j < q →
    spec_kOdds_l0 k K0 K1 q x (x.length : Int) (j : Int) x2 t b b0 out b2 = match colS (x.drop j) with | some v => K0 x2 t b b0 (out ++ v) b2 | none => Z := by
  intro q
  induction q with
  | zero => intro j out h1 h2 h3; omega
  | succ q ih =>
    intro j out h1 h2 h3
    rw [spec_kOdds_l0]
    rcases Nat.lt_or_ge j x.length with h | h
    · have hm := hx _ (List.getElem_mem h)
      have hsp : ∀ K : List ByteArray → Option R, spec_l1Split k x[j] 47 K = K (spV x[j] 47) := fun K => l1Split_eq 47 (by omega) (by omega) K
      rw [dlt, decide_eq_true h, d0, toNatC, getD_lt h, Bool.and_self, cond_true, cond_true, hsp, List.drop_eq_getElem_cons h, colS]
      by_cases c : (spV x[j] 47).length = 2
      · have hrd : ∀ (i : Nat), i < 2 → ∀ K : Int → Option R, spec_l1Read k ((spV x[j] 47).getD i zB) K = K (rdV (toL ((spV x[j] 47).getD i zB))) := fun i hi K => by
          have : ((spV x[j] 47).getD i zB).size ≤ x[j].size := by rw [getD_lt (by omega)]; exact spV_size (b := 47) (List.getElem_mem _)
          exact l1Read_eq (by omega) (by omega) K
        rw [decide_eq_true (by omega : ((spV x[j] 47).length : Int) = 2), if_pos c, Bool.not_true, cond_false, decide_eq_true (by omega : (0 : Int) < ((spV x[j] 47).length : Int)), cond_true, hrd 0 (by omega), decide_eq_true (by omega : (1 : Int) < ((spV x[j] 47).length : Int)), cond_true, hrd 1 (by omega), wsucc (by omega)]
        have hg : decide (out.length + [(rdV (toL ((spV x[j] 47).getD 0 zB)), rdV (toL ((spV x[j] 47).getD 1 zB)))].length ≤ maxGrow) = true := decide_eq_true (by unfold maxGrow; rw [List.length_singleton]; omega)
        rw [hg, cond_true, ih (j + 1) _ (by omega) (by rw [List.length_append, List.length_singleton]; omega) (by omega)]
        cases colS (x.drop (j + 1)) with
        | none => rfl
        | some v => show K0 x2 t b b0 ((out ++ [_]) ++ v) b2 = K0 x2 t b b0 (out ++ _ :: v) b2; rw [List.append_assoc]; rfl
      · rw [decide_eq_false (by omega : ¬ ((spV x[j] 47).length : Int) = 2), if_neg c]
        exact hZ out
    · have hi : j = x.length := by omega
      subst hi
      rw [dlt, decide_eq_false (by omega), List.drop_length, colS]
      show K0 x2 t b b0 out b2 = K0 x2 t b b0 (out ++ []) b2
      rw [List.append_nil]
/-- The columns and the dice of a first line. -/
def oddS (ws : List ByteArray) : Option (List (Int × Int) × Int) := if ws.length < 4 then none else (colS (List.drop 1 (List.take (ws.length - 2) ws))).map fun v => (v, rdV (toL (ws.getD (ws.length - 1) zB)))
theorem kOdds_eq {k : Nat} (hk : 2000000 < k) {ws : List ByteArray} (hl : ws.length ≤ 1048577) (hx : ∀ s ∈ ws, s.size ≤ 1048576) (K : TabT → Bool → Option R) (Z : Option R) (hZ : ∀ t, K t false = Z) : spec_kOdds k ws K = match oddS ws with | some v => K (v.1, (v.2, [])) true | none => Z := by
  unfold spec_kOdds oddS
  by_cases h : ws.length < 4
  · rw [decide_eq_true (by omega : (ws.length : Int) < 4), if_pos h]; exact hZ _
  · have hm : (ws.getD (ws.length - 1) zB).size ≤ 1048576 := by rw [getD_lt (by omega)]; exact hx _ (List.getElem_mem _)
    have hrd : ∀ K : Int → Option R, spec_l1Read k (ws.getD (ws.length - 1) zB) K = K (rdV (toL (ws.getD (ws.length - 1) zB))) := fun K => l1Read_eq (by omega) (by omega) K
    have e1 : Int.toNat ((ws.length : Int) - 1) = ws.length - 1 := by omega
    have e2 : Int.toNat ((ws.length : Int) - 2) = ws.length - 2 := by omega
    rw [decide_eq_false (by omega : ¬ (ws.length : Int) < 4), if_neg h, cond_false, w64 (n := (ws.length : Int) - 1) (by omega), w64 (n := (ws.length : Int) - 2) (by omega), decide_eq_true (by omega : (0 : Int) ≤ (ws.length : Int) - 1), decide_eq_true (by omega : (ws.length : Int) - 1 < (ws.length : Int)), Bool.and_self, cond_true, e1, e2, hrd, decide_eq_true (by omega : (1 : Int) ≤ (ws.length : Int) - 2), decide_eq_true (by omega : (ws.length : Int) - 2 ≤ (ws.length : Int)), Bool.and_self, cond_true]
    have hsub : (List.drop 1 (List.take (ws.length - 2) ws)).Sublist ws := (List.drop_sublist _ _).trans (List.take_sublist _ _)
    have := kOdds_l0_eq (k := k) hk (x := List.drop 1 (List.take (ws.length - 2) ws)) (by have := hsub.length_le; omega) (fun s h => hx s (hsub.subset h)) (fun (x3 : Int) (t0 : Int) (b3 : List (Int × Int)) (b4 : List (List Int)) (b5 : List (Int × Int)) (b6 : List (List Int)) => K (b5, (t0, b6)) true) (fun (x4 : Bool) (x5 : Int) (b7 : List (Int × Int)) (b8 : List (List Int)) => K (b7, (x5, b8)) x4) 0 (rdV (toL (ws.getD (ws.length - 1) zB))) [] [] [] Z (fun b1 => hZ _) k 0 [] (Nat.zero_le _) (Nat.zero_le _) (by have := hsub.length_le; omega)
    refine Eq.trans this ?_
    rw [List.drop_zero]
    cases colS (List.drop 1 (List.take (ws.length - 2) ws)) <;> rfl
theorem kParse_l0_eq {k : Nat} {x7 : ByteArray} (hb : x7.size ≤ 1048576) (K0 : ByteArray → List ByteArray → Int → Int → Int → Int → List Int → List (Int × Int) → List (List Int) → List (Int × Int) → List (List Int) → Option R) (x6 : ByteArray) (x9 : List ByteArray) (x10 x11 x12 x13 : Int) (b3 : List (Int × Int)) (b4 : List (List Int)) (b5 : List (Int × Int)) (b6 : List (List Int)) : ∀ (q i : Nat) (x14 : List Int), i ≤ x7.size → x14.length ≤ i → x7.size - i < q →
    spec_kParse_l0 k K0 q x6 x7 (i : Int) x9 x10 x11 x12 x13 x14 b3 b4 b5 b6 = K0 x6 x9 x10 x11 x12 x13 (x14 ++ ((toL x7).drop i).map datW) b3 b4 b5 b6 := by
  intro q
  induction q with
  | zero => intro i b8 h1 h2 h3; omega
  | succ q ih =>
    intro i b8 h1 h2 h3
    rw [spec_kParse_l0]
    rcases Nat.lt_or_ge i x7.size with h | h
    · have hin : i < (toL x7).length := h
      have hg : decide (b8.length + [IntKind.wrap .i64 (IntKind.wrap .i64 (((toL x7)[i]'hin).toNat : Int) - 48)].length ≤ maxGrow) = true := decide_eq_true (by unfold maxGrow; rw [List.length_singleton]; omega)
      rw [dlt, decide_eq_true h, d0, byteAt_toL hin, List.drop_eq_getElem_cons hin, wsucc (by omega), hg]
      refine Eq.trans (ih (i + 1) _ (by omega) (by rw [List.length_append, List.length_singleton]; omega) (by omega)) ?_
      rw [List.map_cons, List.append_assoc]; rfl
    · have hi : i = x7.size := by omega
      subst hi
      rw [dlt, decide_eq_false (by omega), List.drop_of_length_le (by rw [toL_len]; exact Nat.le_refl _), List.map_nil, List.append_nil]; rfl
theorem kParse_l1_eq {k : Nat} (hk : 2000000 < k) (K0 : ByteArray → Int → Int → List (Int × Int) → List (List Int) → List (Int × Int) → List (List Int) → Option R) (x0 : ByteArray) {ls : List ByteArray} (hl : ls.length ≤ 1048577) (hs : ∀ s ∈ ls, s.size ≤ 1048576) (x4 x5 : Int) (b : List (Int × Int)) (b0 : List (List Int)) (b1 : List (Int × Int)) :
    spec_kParse_l1 k K0 k x0 ls (ls.length : Int) (0 : Int) x4 x5 b b0 b1 [] = K0 x0 x4 x5 b b0 b1 (ls.map rowT) := by
  refine (loop_det (fun q j s => spec_kParse_l1 k K0 q x0 ls (ls.length : Int) (j : Int) x4 x5 b b0 b1 s) ls.length (fun j => (ls.take j).map rowT) (K0 x0 x4 x5 b b0 b1 (ls.map rowT)) ?_ ?_ k 0 (Nat.zero_le _) (by omega))
  · intro q j hj
    have hm := hs _ (List.getElem_mem hj)
    show spec_kParse_l1 k K0 (q + 1) x0 ls _ (j : Int) x4 x5 b b0 b1 ((ls.take j).map rowT) = spec_kParse_l1 k K0 q x0 ls _ ((j + 1 : Nat) : Int) x4 x5 b b0 b1 ((ls.take (j + 1)).map rowT)
    rw [spec_kParse_l1, dlt, d0, decide_eq_true hj, toNatC, getD_lt hj, Bool.and_self, cond_true, cond_true]
    refine Eq.trans (kParse_l0_eq (k := k) (x7 := ls[j]) hm _ x0 ls (ls.length : Int) (j : Int) x4 x5 b b0 b1 ((ls.take j).map rowT) k 0 [] (Nat.zero_le _) (Nat.zero_le _) (by omega)) ?_
    rw [List.nil_append, List.drop_zero, decide_eq_true (p := ((ls.take j).map rowT).length + [(toL ls[j]).map datW].length ≤ maxGrow) (by unfold maxGrow; rw [List.length_map, List.length_take, List.length_singleton]; omega), wsucc (by omega), List.take_succ_eq_append_getElem hj, List.map_append]
    rfl
  · intro q
    show spec_kParse_l1 k K0 (q + 1) x0 ls (ls.length : Int) (ls.length : Int) x4 x5 b b0 b1 ((ls.take ls.length).map rowT) = _
    rw [spec_kParse_l1, dlt, decide_eq_false (by omega), List.take_length]; rfl
def tabS (ls : List ByteArray) : Option TabT := (oddS (spV (ls.getD 0 zB) 32)).map fun v => (v.1, (v.2, List.take (ls.length - 2) (ls.tail.map rowT)))
theorem kParse_eq {k : Nat} (hk : 2000000 < k) {x : ByteArray} (hx : x.size ≤ 1048576) (K : TabT → Bool → Option R) : spec_ParseTable k x K = match tabS (spV x 10) with
    | some t => spec_kGood k t fun (r : Bool) => bif !r then K zTab false else spec_kText k t fun (r5 : ByteArray) => bif !(r5.toList == x.toList) then K zTab false else K t true
    | none => K zTab false := by
  have hsz : ∀ s ∈ spV x 10, s.size ≤ 1048576 := fun s h => by have := spV_size h; omega
  have hln := spV_len x 10
  have hsp : ∀ K : List ByteArray → Option R, spec_l1Split k x 10 K = K (spV x 10) := fun K => l1Split_eq 10 (by omega) (by omega) K
  unfold spec_ParseTable spec_kParse tabS
  rw [hsp]
  generalize hls : spV x 10 = ls at *
  have h0 : (ls.getD 0 zB).size ≤ 1048576 := by rw [getD_lt (by omega)]; exact hsz _ (List.getElem_mem _)
  have hsp2 : ∀ K : List ByteArray → Option R, spec_l1Split k (ls.getD 0 zB) 32 K = K (spV (ls.getD 0 zB) 32) := fun K => l1Split_eq 32 (by omega) (by omega) K
  have hw := spV_len (ls.getD 0 zB) 32
  have e : List.drop 1 (List.take ls.length ls) = ls.tail := by rw [List.take_length, List.drop_one]
  have hlt : ls.tail.length = ls.length - 1 := List.length_tail
  rw [decide_eq_true (by omega : (0 : Int) < (ls.length : Int)), cond_true, hsp2]
  refine Eq.trans (kOdds_eq hk (by omega) (fun s h => by have := spV_size h; omega) _ (K zTab false) ?_) ?_
  · intro t; rfl
  cases oddS (spV (ls.getD 0 zB) 32) with
  | none => rfl
  | some v =>
    simp only [Bool.not_true, cond_false]
    rw [decide_eq_true (by omega : (1 : Int) ≤ (ls.length : Int)), cond_true, e]
    rw [kParse_l1_eq hk _ x (by omega) (fun s h => hsz s (List.mem_of_mem_tail h))]
    have hmost : ∀ K : Int → Option R, spec_l1Most (IntKind.wrap .i64 (((ls.tail.map rowT).length : Int) - 1)) 0 K = K ((ls.length - 2 : Nat) : Int) := by
      intro K
      rw [List.length_map, hlt, w64 (by omega)]
      unfold spec_l1Most
      by_cases hc : (0 : Int) < ((ls.length - 1 : Nat) : Int) - 1
      · rw [decide_eq_true hc, cond_true, show ((ls.length - 1 : Nat) : Int) - 1 = ((ls.length - 2 : Nat) : Int) by omega]
      · rw [decide_eq_false hc, cond_false, show ((ls.length - 2 : Nat) : Int) = 0 by omega]
    rw [hmost, d0, decide_eq_true (by rw [List.length_map, hlt]; omega : ((ls.length - 2 : Nat) : Int) ≤ ((ls.tail.map rowT).length : Int)), Bool.and_self, cond_true, toNatC, List.drop_zero]
    rfl
end
end Go.Lg
/- Reading a table: the program's reader. -/
set_option linter.unusedSimpArgs false
set_option linter.unusedVariables false
namespace Go.Lg
open Go Go.Ev
section
variable {R α σ ι : Type}
abbrev slB : ByteArray := ⟨#[47]⟩
theorem cut_size (s : ByteArray) : (cutV s slB).1.size ≤ s.size ∧ (cutV s slB).2.1.size ≤ s.size := by
  have h1 : (cutV s slB).1.size = (Lib.cut s.data.toList slB.data.toList).1.length := by simp [cutV, ByteArray.size]
  have h2 : (cutV s slB).2.1.size = (Lib.cut s.data.toList slB.data.toList).2.1.length := by simp [cutV, ByteArray.size]
  have h3 : s.data.toList.length = s.size := rfl
  rw [h1, h2]
  unfold Lib.cut
  split
  · simp only [List.length_take, List.length_drop]; omega
  · simp only [List.length_nil]; omega
theorem Cut_eq {s : ByteArray} (sep : ByteArray) (h : s.size ≤ 100000000) (K : ByteArray → ByteArray → Bool → Option R) : strings_Cut s sep K = K (cutV s sep).1 (cutV s sep).2.1 (cutV s sep).2.2 := by
  unfold strings_Cut
  rw [decide_eq_true (by omega : ByteArray.size s < 4294967281)]; rfl
def colI : List ByteArray → Option (List (Int × Int))
  | [] => some []
  | w :: ws => if (readIV (cutV w slB).1).2 = true then if (readIV (cutV w slB).2.1).2 = true then (colI ws).map (((readIV (cutV w slB).1).1, (readIV (cutV w slB).2.1).1) :: ·) else none else none
theorem colI_len : ∀ {l : List ByteArray} {v : List (Int × Int)}, colI l = some v → v.length = l.length
  | [], v, h => by injection h with h; subst h; rfl
  | s :: l, v, h => by
    unfold colI at h
    split at h
    · split at h
      · obtain ⟨u, hu, rfl⟩ := Option.map_eq_some_iff.1 h
        rw [List.length_cons, List.length_cons, colI_len hu]
      · cases h
    · cases h
theorem pTab_l0_eq {k : Nat} {x3 : List ByteArray} (hl : x3.length ≤ 1048577) (hx : ∀ s ∈ x3, s.size ≤ 1048576) (K0 : ByteArray → List ByteArray → List ByteArray → Int → Int → List (Int × Int) → List (List Int) → List (Int × Int) → List (List Int) → Option R) (K1 : Bool → Int → Option R) (x0 : ByteArray) (x1 x2 : List ByteArray) (x6 x7 : Int) (b : List (Int × Int)) (b0 b2 : List (List Int)) : ∀ (q j : Nat) (out : List (Int × Int)), j ≤ x3.length → out.length ≤ j → x3.length - j < q →
    impl_ParseTable_l0 k K0 K1 q x0 x1 x2 x3 (x3.length : Int) (j : Int) x6 x7 b b0 out b2 = match colI (x3.drop j) with | some v => K0 x0 x1 x2 x6 x7 b b0 (out ++ v) b2 | none => K1 false 0 := by
  intro q
  induction q with
  | zero => intro j out h1 h2 h3; omega
  | succ q ih =>
    intro j out h1 h2 h3
    rw [impl_ParseTable_l0]
    rcases Nat.lt_or_ge j x3.length with h | h
    · have hm := hx _ (List.getElem_mem h)
      have hz := cut_size x3[j]
      rw [dlt, decide_eq_true h, d0, toNatC, getD_lt h, Cut_eq slB (by omega), readInt_eq (by omega), readInt_eq (by omega), wsucc (by omega), decide_eq_true (p := out.length + [((readIV (cutV x3[j] slB).1).1, (readIV (cutV x3[j] slB).2.1).1)].length ≤ maxGrow) (by unfold maxGrow; rw [List.length_singleton]; omega), List.drop_eq_getElem_cons h, colI]
      cases hr : (readIV (cutV x3[j] slB).1).2
      · rfl
      · cases hr2 : (readIV (cutV x3[j] slB).2.1).2
        · rfl
        · simp only [Bool.and_self, cond_true, Bool.not_true, cond_false, if_pos rfl]
          rw [ih (j + 1) _ (by omega) (by rw [List.length_append, List.length_singleton]; omega) (by omega)]
          cases colI (x3.drop (j + 1)) with
          | none => rfl
          | some v => show K0 x0 x1 x2 x6 x7 b b0 ((out ++ [_]) ++ v) b2 = K0 x0 x1 x2 x6 x7 b b0 (out ++ _ :: v) b2; rw [List.append_assoc]; rfl
    · have hi : j = x3.length := by omega
      subst hi
      rw [dlt, decide_eq_false (by omega), List.drop_length, colI]
      show K0 x0 x1 x2 x6 x7 b b0 out b2 = K0 x0 x1 x2 x6 x7 b b0 (out ++ []) b2
      rw [List.append_nil]
theorem pTab_l1_eq {k : Nat} {x7 : ByteArray} (hb : x7.size ≤ 1048576) (K0 : ByteArray → List ByteArray → Int → Int → Int → Int → List Int → List (Int × Int) → List (List Int) → List (Int × Int) → List (List Int) → Option R) (x6 : ByteArray) (x9 : List ByteArray) (x10 x11 x12 x13 : Int) (b3 : List (Int × Int)) (b4 : List (List Int)) (b5 : List (Int × Int)) (b6 : List (List Int)) : ∀ (q i : Nat) (x14 : List Int), i ≤ x7.size → x14.length ≤ i → x7.size - i < q →
    impl_ParseTable_l1 k K0 q x6 x7 (i : Int) x9 x10 x11 x12 x13 x14 b3 b4 b5 b6 = K0 x6 x9 x10 x11 x12 x13 (x14 ++ ((toL x7).drop i).map datW) b3 b4 b5 b6 := by
  intro q
  induction q with
  | zero => intro i b8 h1 h2 h3; omega
  | succ q ih =>
    intro i b8 h1 h2 h3
    rw [impl_ParseTable_l1]
    rcases Nat.lt_or_ge i x7.size with h | h
    · have hin : i < (toL x7).length := h
      have hg : decide (b8.length + [IntKind.wrap .i64 (IntKind.wrap .i64 (((toL x7)[i]'hin).toNat : Int) - 48)].length ≤ maxGrow) = true := decide_eq_true (by unfold maxGrow; rw [List.length_singleton]; omega)
      rw [dlt, decide_eq_true h, d0, byteAt_toL hin, List.drop_eq_getElem_cons hin, wsucc (by omega), hg]
      refine Eq.trans (ih (i + 1) _ (by omega) (by rw [List.length_append, List.length_singleton]; omega) (by omega)) ?_
      rw [List.map_cons, List.append_assoc]; rfl
    · have hi : i = x7.size := by omega
      subst hi
      rw [dlt, decide_eq_false (by omega), List.drop_of_length_le (by rw [toL_len]; exact Nat.le_refl _), List.map_nil, List.append_nil]; rfl
theorem pTab_l2_eq {k : Nat} (hk : 2000000 < k) (K0 : ByteArray → Int → Int → List (Int × Int) → List (List Int) → List (Int × Int) → List (List Int) → Option R) (x0 : ByteArray) {ls : List ByteArray} (hl : ls.length ≤ 1048577) (hs : ∀ s ∈ ls, s.size ≤ 1048576) (x4 x5 : Int) (b : List (Int × Int)) (b0 : List (List Int)) (b1 : List (Int × Int)) :
    impl_ParseTable_l2 k K0 k x0 ls (ls.length : Int) (0 : Int) x4 x5 b b0 b1 [] = K0 x0 x4 x5 b b0 b1 (ls.map rowT) := by
  refine (loop_det (fun q j s => impl_ParseTable_l2 k K0 q x0 ls (ls.length : Int) (j : Int) x4 x5 b b0 b1 s) ls.length (fun j => (ls.take j).map rowT) (K0 x0 x4 x5 b b0 b1 (ls.map rowT)) ?_ ?_ k 0 (Nat.zero_le _) (by omega))
  · intro q j hj
    have hm := hs _ (List.getElem_mem hj)
    show impl_ParseTable_l2 k K0 (q + 1) x0 ls _ (j : Int) x4 x5 b b0 b1 ((ls.take j).map rowT) = impl_ParseTable_l2 k K0 q x0 ls _ ((j + 1 : Nat) : Int) x4 x5 b b0 b1 ((ls.take (j + 1)).map rowT)
    rw [impl_ParseTable_l2, dlt, d0, decide_eq_true hj, toNatC, getD_lt hj, Bool.and_self, cond_true, cond_true]
    refine Eq.trans (pTab_l1_eq (k := k) (x7 := ls[j]) hm _ x0 ls (ls.length : Int) (j : Int) x4 x5 b b0 b1 ((ls.take j).map rowT) k 0 [] (Nat.zero_le _) (Nat.zero_le _) (by omega)) ?_
    rw [List.nil_append, List.drop_zero, decide_eq_true (p := ((ls.take j).map rowT).length + [(toL ls[j]).map datW].length ≤ maxGrow) (by unfold maxGrow; rw [List.length_map, List.length_take, List.length_singleton]; omega), wsucc (by omega), List.take_succ_eq_append_getElem hj, List.map_append]
    rfl
  · intro q
    show impl_ParseTable_l2 k K0 (q + 1) x0 ls (ls.length : Int) (ls.length : Int) x4 x5 b b0 b1 ((ls.take ls.length).map rowT) = _
    rw [impl_ParseTable_l2, dlt, decide_eq_false (by omega), List.take_length]; rfl
def tabI (ls : List ByteArray) : Option TabT := if (spV (ls.getD 0 zB) 32).length < 4 then none else if ls.length < 2 then none else
  (colI (List.drop 1 (List.take ((spV (ls.getD 0 zB) 32).length - 2) (spV (ls.getD 0 zB) 32)))).map fun v => (v, ((readIV ((spV (ls.getD 0 zB) 32).getD ((spV (ls.getD 0 zB) 32).length - 1) zB)).1, (List.drop 1 (List.take (ls.length - 1) ls)).map rowT))
theorem pTab_eq {k : Nat} (hk : 2000000 < k) {x : ByteArray} (hx : x.size ≤ 1048576) (K : TabT → Bool → Option R) : impl_ParseTable k x K = match tabI (spV x 10) with
    | some t => impl_IsCombatTable k t fun (r : Bool) => bif !r then K zTab false else impl_tableText k t fun (r5 : ByteArray) => bif !(r5.toList == x.toList) then K zTab false else K t true
    | none => K zTab false := by
  have hsz : ∀ s ∈ spV x 10, s.size ≤ 1048576 := fun s h => by have := spV_size h; omega
  have hln := spV_len x 10
  unfold impl_ParseTable tabI
  rw [Split_eq 10 (by omega)]
  generalize hls : spV x 10 = ls at *
  have h0 : (ls.getD 0 zB).size ≤ 1048576 := by rw [getD_lt (by omega)]; exact hsz _ (List.getElem_mem _)
  have hw := spV_len (ls.getD 0 zB) 32
  have hws : ∀ s ∈ spV (ls.getD 0 zB) 32, s.size ≤ 1048576 := fun s h => by have := spV_size h; omega
  rw [decide_eq_true (by omega : (0 : Int) < (ls.length : Int)), cond_true, Split_eq 32 (Nat.le_trans h0 (by omega))]
  generalize hwd : spV (ls.getD 0 zB) 32 = ws at *
  by_cases h4 : ws.length < 4
  · rw [decide_eq_true (by omega : (ws.length : Int) < 4), if_pos h4]; rfl
  · rw [decide_eq_false (by omega : ¬ (ws.length : Int) < 4), if_neg h4, cond_false]
    by_cases h2 : ls.length < 2
    · rw [decide_eq_true (by omega : (ls.length : Int) < 2), if_pos h2]; rfl
    · have e1 : Int.toNat ((ws.length : Int) - 1) = ws.length - 1 := by omega
      have e2 : Int.toNat ((ws.length : Int) - 2) = ws.length - 2 := by omega
      have e3 : Int.toNat ((ls.length : Int) - 1) = ls.length - 1 := by omega
      have hsub : (List.drop 1 (List.take (ws.length - 2) ws)).Sublist ws := (List.drop_sublist _ _).trans (List.take_sublist _ _)
      have hsub2 : (List.drop 1 (List.take (ls.length - 1) ls)).Sublist ls := (List.drop_sublist _ _).trans (List.take_sublist _ _)
      have hm : (ws.getD (ws.length - 1) zB).size ≤ 1048576 := by rw [getD_lt (by omega)]; exact hws _ (List.getElem_mem _)
      rw [decide_eq_false (by omega : ¬ (ls.length : Int) < 2), if_neg h2, cond_false, w64 (n := (ws.length : Int) - 2) (by omega), decide_eq_true (by omega : (1 : Int) ≤ (ws.length : Int) - 2), decide_eq_true (by omega : (ws.length : Int) - 2 ≤ (ws.length : Int)), Bool.and_self, cond_true, e2]
      refine Eq.trans (pTab_l0_eq (k := k) (x3 := List.drop 1 (List.take (ws.length - 2) ws)) (by have := hsub.length_le; omega) (fun s h => hws s (hsub.subset h)) _ _ x ls ws 0 0 [] [] [] k 0 [] (Nat.zero_le _) (Nat.zero_le _) (by have := hsub.length_le; omega)) ?_
      rw [List.drop_zero]
      cases colI (List.drop 1 (List.take (ws.length - 2) ws)) with
      | none => rfl
      | some v =>
        show (bif decide ((0 : Int) ≤ IntKind.wrap .i64 ((ws.length : Int) - 1)) && decide (IntKind.wrap .i64 ((ws.length : Int) - 1) < (ws.length : Int)) then _ else none) = _
        rw [w64 (n := (ws.length : Int) - 1) (by omega), decide_eq_true (by omega : (0 : Int) ≤ (ws.length : Int) - 1), decide_eq_true (by omega : (ws.length : Int) - 1 < (ws.length : Int)), Bool.and_self, cond_true, e1, readInt_eq (Nat.le_trans hm (by omega)), w64 (n := (ls.length : Int) - 1) (by omega), decide_eq_true (by omega : (1 : Int) ≤ (ls.length : Int) - 1), decide_eq_true (by omega : (ls.length : Int) - 1 ≤ (ls.length : Int)), Bool.and_self, cond_true, e3]
        refine Eq.trans (pTab_l2_eq hk _ x (by have := hsub2.length_le; omega) (fun s h => hsz s (hsub2.subset h)) 0 _ [] [] _) ?_
        rfl
end
end Go.Lg
/- Reading a table: what was written is read back. -/
set_option linter.unusedSimpArgs false
set_option linter.unusedVariables false
namespace Go.Lg
open Go Go.Ev
section
variable {R α σ ι : Type}
/-! ### words and rows -/
def joinL (w : List UInt8) (ws : List (List UInt8)) : List UInt8 := w ++ ws.flatMap fun v => 32 :: v
theorem joinL_cons (w v : List UInt8) (ws : List (List UInt8)) : joinL w (v :: ws) = w ++ 32 :: joinL v ws := by unfold joinL; simp
theorem joinL_split : ∀ (ws : List (List UInt8)) {w : List UInt8}, (∀ v ∈ ws, 32 ∉ v) → 32 ∉ w → splL 32 (joinL w ws) = w :: ws
  | [], w, _, hw => by simp only [joinL, List.flatMap_nil, List.append_nil]; exact splL_none hw
  | v :: ws, w, h, hw => by
    rw [joinL_cons, splL_app hw, joinL_split ws (fun x hx => h x (List.mem_cons_of_mem _ hx)) (h v List.mem_cons_self)]
theorem joinL_no10 : ∀ (ws : List (List UInt8)) {w : List UInt8}, (∀ v ∈ ws, 10 ∉ v) → 10 ∉ w → 10 ∉ joinL w ws
  | [], w, _, hw => by simpa [joinL] using hw
  | v :: ws, w, h, hw => by
    have ih := joinL_no10 ws (fun x hx => h x (List.mem_cons_of_mem _ hx)) (h v List.mem_cons_self)
    rw [joinL_cons, List.mem_append, List.mem_cons]
    rintro (h2 | h2 | h2)
    · exact hw h2
    · cases h2
    · exact ih h2
theorem dig8 : ∀ n < 8, (Lib.itoa ((n : Nat) : Int)).map datW = [((n : Nat) : Int)] ∧ 10 ∉ Lib.itoa ((n : Nat) : Int) := by decide +kernel
theorem no47 : ∀ n < 21, 47 ∉ Lib.itoa ((n : Nat) : Int) := by decide +kernel
def rwDg (r : List Int) : List UInt8 := r.flatMap Lib.itoa
theorem rwDg_of : ∀ {r : List Int}, (∀ x ∈ r, 0 ≤ x ∧ x ≤ 7) → (rwDg r).map datW = r ∧ 10 ∉ rwDg r
  | [], _ => ⟨rfl, by simp [rwDg]⟩
  | x :: r, h => by
    have hx := h x List.mem_cons_self
    obtain ⟨n, rfl⟩ : ∃ n : Nat, x = (n : Int) := ⟨x.toNat, by omega⟩
    have hd := dig8 n (by omega)
    have ih := rwDg_of (r := r) (fun y hy => h y (List.mem_cons_of_mem _ hy))
    have e : rwDg ((n : Int) :: r) = Lib.itoa (n : Int) ++ rwDg r := rfl
    rw [e, List.map_append, hd.1, ih.1, List.mem_append]
    exact ⟨rfl, fun h => h.elim hd.2 ih.2⟩
theorem toL_cells : ∀ (r : List Int) (s : ByteArray), toL (r.foldl celF s) = toL s ++ rwDg r
  | [], s => by simp [rwDg]
  | x :: r, s => by
    rw [List.foldl_cons, toL_cells r]
    unfold celF
    rw [toL_app, List.append_assoc]; rfl
theorem toL_rows : ∀ (rs : List (List Int)) (s : ByteArray), toL (rs.foldl rowF s) = toL s ++ rs.flatMap fun r => rwDg r ++ [10]
  | [], s => by simp
  | r :: rs, s => by
    have e : toL (rowF s r) = toL s ++ (rwDg r ++ [10]) := by
      unfold rowF
      rw [toL_app, toL_cells, List.append_assoc]; rfl
    rw [List.foldl_cons, toL_rows rs, e, List.flatMap_cons, List.append_assoc]
theorem rows_lines : ∀ {rs : List (List Int)}, (∀ r ∈ rs, ∀ x ∈ r, 0 ≤ x ∧ x ≤ 7) → splL 10 (rs.flatMap fun r => rwDg r ++ [10]) = rs.map rwDg ++ [[]]
  | [], _ => rfl
  | r :: rs, h => by
    have hr := rwDg_of (h r List.mem_cons_self)
    have e : ((r :: rs).flatMap fun r => rwDg r ++ [10]) = rwDg r ++ 10 :: rs.flatMap fun r => rwDg r ++ [10] := by simp
    rw [e, splL_app hr.2, rows_lines (fun q hq => h q (List.mem_cons_of_mem _ hq))]; rfl
/-! ### columns -/
def colW (c : Int × Int) : List UInt8 := Lib.itoa c.1 ++ 47 :: Lib.itoa c.2
theorem toL_cols : ∀ (l : List (Int × Int)) (s : ByteArray), toL (l.foldl colF s) = joinL (toL s) (l.map colW)
  | [], s => by simp [joinL]
  | c :: l, s => by
    have e : toL (colF s c) = toL s ++ 32 :: colW c := by
      unfold colF colW
      rw [toL_app, toL_app, toL_app, toL_app, itoaB_toL, itoaB_toL]
      show toL s ++ (([32] ++ Lib.itoa c.1) ++ [47] ++ Lib.itoa c.2) = _
      simp
    rw [List.foldl_cons, toL_cols l, e, List.map_cons]
    unfold joinL
    simp
def okC (c : Int × Int) : Prop := (1 ≤ c.1 ∧ c.1 ≤ 20) ∧ 1 ≤ c.2 ∧ c.2 ≤ 20
theorem no47_of {e : Int} (h : 1 ≤ e ∧ e ≤ 20) : 47 ∉ Lib.itoa e := by
  obtain ⟨n, rfl⟩ : ∃ n : Nat, e = (n : Int) := ⟨e.toNat, by omega⟩
  exact no47 n (by omega)
theorem colW_no {c : Int × Int} (h : okC c) : 10 ∉ colW c ∧ 32 ∉ colW c := by
  have h1 := num_of (e := c.1) (by have := h.1; omega)
  have h2 := num_of (e := c.2) (by have := h.2; omega)
  unfold colW
  simp only [List.mem_append, List.mem_cons, not_or]
  exact ⟨⟨h1.1, by decide, h2.1⟩, h1.2.1, by decide, h2.2.1⟩
theorem colW_split {c : Int × Int} (h : okC c) : spV (mkB (colW c)) 47 = [mkB (Lib.itoa c.1), mkB (Lib.itoa c.2)] := by
  unfold spV colW
  rw [toL_mkB, splL_app (no47_of h.1), splL_none (no47_of h.2)]; rfl
theorem colW_cut {c : Int × Int} (h : okC c) : cutV (mkB (colW c)) slB = (mkB (Lib.itoa c.1), mkB (Lib.itoa c.2), true) := by
  have e1 : (mkB (colW c)).data.toList = Lib.itoa c.1 ++ 47 :: Lib.itoa c.2 := toL_mkB _
  have e2 : slB.data.toList = [47] := rfl
  have hi := index_app (r := Lib.itoa c.2) (no47_of h.1)
  have hc : Lib.cut (mkB (colW c)).data.toList slB.data.toList = (Lib.itoa c.1, Lib.itoa c.2, true) := by
    rw [e1, e2]
    unfold Lib.cut
    rw [hi, if_pos (by omega)]
    simp
  unfold cutV
  rw [hc]; rfl
theorem colS_of : ∀ {l : List (Int × Int)}, (∀ c ∈ l, okC c) → colS (l.map fun c => mkB (colW c)) = some l
  | [], _ => rfl
  | c :: l, h => by
    have hc := h c List.mem_cons_self
    have h1 := num_of (e := c.1) (by have := hc.1; omega)
    have h2 := num_of (e := c.2) (by have := hc.2; omega)
    rw [List.map_cons, colS, colW_split hc, if_pos (by rfl : [mkB (Lib.itoa c.1), mkB (Lib.itoa c.2)].length = 2), colS_of (fun x hx => h x (List.mem_cons_of_mem _ hx))]
    show some ((rdV (toL (mkB (Lib.itoa c.1))), rdV (toL (mkB (Lib.itoa c.2)))) :: l) = _
    rw [toL_mkB, toL_mkB, h1.2.2.1, h2.2.2.1]
theorem colI_of : ∀ {l : List (Int × Int)}, (∀ c ∈ l, okC c) → colI (l.map fun c => mkB (colW c)) = some l
  | [], _ => rfl
  | c :: l, h => by
    have hc := h c List.mem_cons_self
    have h1 := num_of (e := c.1) (by have := hc.1; omega)
    have h2 := num_of (e := c.2) (by have := hc.2; omega)
    rw [List.map_cons, colI, colW_cut hc]
    simp only [h1.2.2.2, h2.2.2.2, if_pos rfl]
    rw [colI_of (fun x hx => h x (List.mem_cons_of_mem _ hx))]
    rfl
def oddC : List UInt8 := [111, 100, 100, 115]
def dicC : List UInt8 := [100, 105, 99, 101]
def hdrW (t : TabT) : List (List UInt8) := t.1.map colW ++ [dicC, Lib.itoa t.2.1]
section
variable {t : TabT} (hg : goodT t = true)
include hg
theorem tab_text : toL (tabZ t) = joinL oddC (hdrW t) ++ 10 :: t.2.2.flatMap fun r => rwDg r ++ [10] := by
  unfold tabZ tabD tabH hdrW
  rw [toL_rows, toL_app, toL_cols, toL_app, toL_app, itoaB_toL]
  have e1 : toL (⟨#[32, 100, 105, 99, 101, 32]⟩ : ByteArray) = [32, 100, 105, 99, 101, 32] := rfl
  have e3 : toL nl = [10] := rfl
  have e4 : toL (⟨#[111, 100, 100, 115]⟩ : ByteArray) = oddC := rfl
  rw [e1, e3, e4]
  unfold joinL dicC
  simp
theorem hdr_no : (∀ v ∈ hdrW t, 32 ∉ v) ∧ ∀ v ∈ hdrW t, 10 ∉ v := by
  obtain ⟨_, hd, _⟩ := good_tab hg
  have hn := num_of (e := t.2.1) (by omega)
  refine ⟨fun v hv => ?_, fun v hv => ?_⟩ <;>
  · unfold hdrW at hv
    simp only [List.mem_append, List.mem_map, List.mem_cons, List.not_mem_nil, or_false] at hv
    rcases hv with ⟨c, hc, rfl⟩ | rfl | rfl
    · first | exact (colW_no (col_in hg c hc)).2 | exact (colW_no (col_in hg c hc)).1
    · decide
    · first | exact hn.2.1 | exact hn.1
theorem tab_lines : spV (tabZ t) 10 = mkB (joinL oddC (hdrW t)) :: (t.2.2.map (fun r => mkB (rwDg r)) ++ [mkB []]) := by
  obtain ⟨_, _, _, _, h5⟩ := good_tab hg
  unfold spV
  rw [tab_text hg, splL_app (joinL_no10 _ (hdr_no hg).2 (by decide)), rows_lines (fun r hr => (h5 r hr).2)]
  simp
theorem tab_words : spV (mkB (joinL oddC (hdrW t))) 32 = mkB oddC :: (t.1.map (fun c => mkB (colW c)) ++ [mkB dicC, mkB (Lib.itoa t.2.1)]) := by
  unfold spV
  rw [toL_mkB, joinL_split _ (hdr_no hg).1 (by decide)]
  unfold hdrW
  simp
theorem rows_val : (t.2.2.map (fun r => mkB (rwDg r))).map rowT = t.2.2 := by
  obtain ⟨_, _, _, _, h5⟩ := good_tab hg
  rw [List.map_map]
  conv => rhs; rw [← List.map_id t.2.2]
  exact List.map_congr_left fun r hr => by
    show (toL (mkB (rwDg r))).map datW = r
    rw [toL_mkB]
    exact (rwDg_of (h5 r hr).2).1
theorem words_val : (mkB oddC :: (t.1.map (fun c => mkB (colW c)) ++ [mkB dicC, mkB (Lib.itoa t.2.1)])).length = t.1.length + 3 ∧ List.drop 1 (List.take (t.1.length + 1) (mkB oddC :: (t.1.map (fun c => mkB (colW c)) ++ [mkB dicC, mkB (Lib.itoa t.2.1)]))) = t.1.map (fun c => mkB (colW c)) ∧ List.getD (mkB oddC :: (t.1.map (fun c => mkB (colW c)) ++ [mkB dicC, mkB (Lib.itoa t.2.1)])) (t.1.length + 2) zB = mkB (Lib.itoa t.2.1) := by
  refine ⟨by simp, ?_, ?_⟩
  · rw [List.take_succ_cons, List.drop_succ_cons, List.drop_zero, List.take_left' (by rw [List.length_map])]
  · rw [List.getD_cons_succ, List.getD_eq_getElem?_getD, List.getElem?_append_right (by rw [List.length_map]; omega), List.length_map, show t.1.length + 1 - t.1.length = 1 by omega]; rfl
theorem tabS_back : tabS (spV (tabZ t) 10) = some t := by
  obtain ⟨h1, hd, hl, _⟩ := good_tab hg
  have hn := num_of (e := t.2.1) (by omega)
  obtain ⟨w1, w2, w3⟩ := words_val hg
  unfold tabS oddS
  rw [tab_lines hg, List.getD_cons_zero, tab_words hg, w1, if_neg (by omega), show t.1.length + 3 - 2 = t.1.length + 1 by omega, show t.1.length + 3 - 1 = t.1.length + 2 by omega, w2, w3, colS_of (col_in hg), toL_mkB, hn.2.2.1, List.tail_cons, List.map_append, rows_val hg]
  have e : (mkB (joinL oddC (hdrW t)) :: (t.2.2.map (fun r => mkB (rwDg r)) ++ [mkB []])).length - 2 = t.2.2.length := by simp
  rw [e, List.take_left' rfl]
  rfl
theorem tabI_back : tabI (spV (tabZ t) 10) = some t := by
  obtain ⟨h1, hd, hl, _⟩ := good_tab hg
  have hn := num_of (e := t.2.1) (by omega)
  obtain ⟨w1, w2, w3⟩ := words_val hg
  unfold tabI
  have e : (mkB (joinL oddC (hdrW t)) :: (t.2.2.map (fun r => mkB (rwDg r)) ++ [mkB []])).length = t.2.2.length + 2 := by simp
  rw [tab_lines hg, List.getD_cons_zero, tab_words hg, w1, if_neg (by omega), e, if_neg (by omega), show t.1.length + 3 - 2 = t.1.length + 1 by omega, show t.1.length + 3 - 1 = t.1.length + 2 by omega, w2, w3, colI_of (col_in hg), hn.2.2.2, show t.2.2.length + 2 - 1 = t.2.2.length + 1 by omega, List.take_succ_cons, List.drop_succ_cons, List.drop_zero, List.take_left' (by rw [List.length_map]), rows_val hg]
  rfl
end
end
end Go.Lg
/- Regions of a board: the laws. -/
set_option linter.unusedSimpArgs false
set_option linter.unusedVariables false
namespace Go.Lg
open Go Go.Ev
section
variable {R α σ ι : Type}
section
variable {b : BrdT} (hg : goodB b = true) {kind : Int} (hk : 0 ≤ kind ∧ kind < (b.1.2.1.length : Int))
include hg hk
end
/-! ### two places in one region -/
end
end Go.Lg
