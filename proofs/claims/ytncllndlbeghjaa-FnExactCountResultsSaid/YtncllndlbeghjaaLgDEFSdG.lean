/- Sorting numbers, in plain words. -/
import Derived.Test.YtncllndlbeghjaaLg0ABC
set_option linter.unusedVariables false
set_option linter.unusedSimpArgs false
set_option linter.unusedSectionVars false
set_option linter.unusedVariables false
namespace Go.Lg
open Go Go.Ev
/-- laws.szBoard -/
def laws_szBoard (k : Nat) (a : ((List (ByteArray × (List Int) × Int × Int × Bool)) × (List (ByteArray × Int × Int × Int × Bool × Int)) × Int × Int × Int × Int × Int) × Int × Int × (List Int) × (List Int) × List Int) (left : Int) {R : Type} (K : Int → Option R) : Option R :=
  laws_szRules k a.1 left fun (r : Int) =>
  bif decide (r < (0 : Int)) then
    K (-1 : Int)
  else
    laws_szMap a.2 r fun (r0 : Int) =>
    bif decide (r0 < (0 : Int)) then
      K (-1 : Int)
    else
      K r0
/-- laws.toBoard -/
def laws_toBoard (k : Nat) (a : ((List (ByteArray × (List Int) × Int × Int × Bool)) × (List (ByteArray × Int × Int × Int × Bool × Int)) × Int × Int × Int × Int × Int) × Int × Int × (List Int) × (List Int) × List Int) {R : Type} (K : (((List (ByteArray × (List Int) × Int × Int × Bool)) × (List (ByteArray × Int × Int × Int × Bool × Int)) × Int × Int × Int × Int × Int) × Int × Int × (List Int) × (List Int) × List Int) → Option R) : Option R :=
  laws_toRules k a.1 fun (r : (List (ByteArray × (List Int) × Int × Int × Bool)) × (List (ByteArray × Int × Int × Int × Bool × Int)) × Int × Int × Int × Int × Int) =>
  laws_toMap k a.2 fun (r0 : Int × Int × (List Int) × (List Int) × List Int) =>
  K ((r.1, (r.2.1, (r.2.2.1, (r.2.2.2.1, (r.2.2.2.2.1, (r.2.2.2.2.2.1, r.2.2.2.2.2.2)))))), (r0.1, (r0.2.1, (r0.2.2.1, (r0.2.2.2.1, r0.2.2.2.2)))))
/-- spec.bGood -/
def spec_bGood (k : Nat) (b : ((List (ByteArray × (List Int) × Int × Int × Bool)) × (List (ByteArray × Int × Int × Int × Bool × Int)) × Int × Int × Int × Int × Int) × Int × Int × (List Int) × (List Int) × List Int) {R : Type} (K : Bool → Option R) : Option R :=
  spec_rGood k b.1 fun (r : Bool) =>
  bif r then
    spec_mGood k b.2 fun (r0 : Bool) =>
    bif r0 then
      spec_l1All k b.2.2.2.1 (0 : Int) (IntKind.wrap .i64 (((List.length b.1.1 : Nat) : Int) - (1 : Int))) fun (r1 : Bool) =>
      K r1
    else
      K false
  else
    K false
/-- spec.IsBoard -/
def spec_IsBoard (k : Nat) (b : ((List (ByteArray × (List Int) × Int × Int × Bool)) × (List (ByteArray × Int × Int × Int × Bool × Int)) × Int × Int × Int × Int × Int) × Int × Int × (List Int) × (List Int) × List Int) {R : Type} (K : Bool → Option R) : Option R :=
  spec_bGood k b fun (r : Bool) =>
  K r
/-- impl.IsBoard$1 -/
def impl_IsBoard_1 (t : Int) (x : ((List (ByteArray × (List Int) × Int × Int × Bool)) × (List (ByteArray × Int × Int × Int × Bool × Int)) × Int × Int × Int × Int × Int) × Int × Int × (List Int) × (List Int) × List Int) {R : Type} (K : Bool → Option R) : Option R :=
  K (decide (((List.length x.1.1 : Nat) : Int) ≤ t))
/-- slices.IndexFunc[[]int,int] -/
def slices_IndexFunc_Sint_int__impl_IsBoard_1_l0 (k : Nat) {R : Type} (K0 : Option R) (K1 : Int → Option R) : Nat → (List Int) → (((List (ByteArray × (List Int) × Int × Int × Bool)) × (List (ByteArray × Int × Int × Int × Bool × Int)) × Int × Int × Int × Int × Int) × Int × Int × (List Int) × (List Int) × List Int) → Int → Int → Option R
  | 0, _, _, _, _ => none
  | m + 1, s0, f, x, x0 =>
    bif decide (x0 < x) then
      bif decide ((0 : Int) ≤ x0) && decide (x0 < ((List.length s0 : Nat) : Int)) then
        impl_IsBoard_1 (List.getD s0 (Int.toNat x0) (0 : Int)) f fun (r : Bool) =>
        bif r then
          K1 x0
        else
          slices_IndexFunc_Sint_int__impl_IsBoard_1_l0 k K0 K1 m s0 f x (IntKind.wrap .i64 (x0 + (1 : Int)))
      else
        none
    else
      K0
def slices_IndexFunc_Sint_int__impl_IsBoard_1 (k : Nat) (s : List Int) (c : ((List (ByteArray × (List Int) × Int × Int × Bool)) × (List (ByteArray × Int × Int × Int × Bool × Int)) × Int × Int × Int × Int × Int) × Int × Int × (List Int) × (List Int) × List Int) {R : Type} (K : Int → Option R) : Option R :=
  slices_IndexFunc_Sint_int__impl_IsBoard_1_l0 k (
    K (-1 : Int)) (fun (x1 : Int) =>
    K x1) k s c ((List.length s : Nat) : Int) (0 : Int)
/-- slices.ContainsFunc[[]int,int] -/
def slices_ContainsFunc_Sint_int__impl_IsBoard_1 (k : Nat) (s : List Int) (c : ((List (ByteArray × (List Int) × Int × Int × Bool)) × (List (ByteArray × Int × Int × Int × Bool × Int)) × Int × Int × Int × Int × Int) × Int × Int × (List Int) × (List Int) × List Int) {R : Type} (K : Bool → Option R) : Option R :=
  slices_IndexFunc_Sint_int__impl_IsBoard_1 k s c fun (r : Int) =>
  K (decide ((0 : Int) ≤ r))
/-- impl.IsBoard -/
def impl_IsBoard (k : Nat) (b : ((List (ByteArray × (List Int) × Int × Int × Bool)) × (List (ByteArray × Int × Int × Int × Bool × Int)) × Int × Int × Int × Int × Int) × Int × Int × (List Int) × (List Int) × List Int) {R : Type} (K : Bool → Option R) : Option R :=
  impl_IsRules k b.1 fun (r : Bool) =>
  bif !r then
    K false
  else
    impl_IsMap k b.2 fun (r0 : Bool) =>
    bif !r0 then
      K false
    else
      slices_ContainsFunc_Sint_int__impl_IsBoard_1 k b.2.2.2.1 b fun (r1 : Bool) =>
      K (!r1)
/-- laws.eqBoard -/
def laws_eqBoard (k : Nat) (a : ((List (ByteArray × (List Int) × Int × Int × Bool)) × (List (ByteArray × Int × Int × Int × Bool × Int)) × Int × Int × Int × Int × Int) × Int × Int × (List Int) × (List Int) × List Int) (b : ((List (ByteArray × (List Int) × Int × Int × Bool)) × (List (ByteArray × Int × Int × Int × Bool × Int)) × Int × Int × Int × Int × Int) × Int × Int × (List Int) × (List Int) × List Int) {R : Type} (K : Bool → Option R) : Option R :=
  laws_eqRules k a.1 b.1 fun (r : Bool) =>
  bif !r then
    K false
  else
    laws_eqMap k a.2 b.2 fun (r0 : Bool) =>
    bif !r0 then
      K false
    else
      K true
/-- laws.FnExactIsBoard -/
def laws_FnExactIsBoard (k : Nat) (aB : ((List (ByteArray × (List Int) × Int × Int × Bool)) × (List (ByteArray × Int × Int × Int × Bool × Int)) × Int × Int × Int × Int × Int) × Int × Int × (List Int) × (List Int) × List Int) {R : Type} (K : Bool → Option R) : Option R :=
  laws_szBoard k aB (1048576 : Int) fun (r : Int) =>
  bif decide (r < (0 : Int)) then
    K true
  else
    laws_toBoard k aB fun (r0 : ((List (ByteArray × (List Int) × Int × Int × Bool)) × (List (ByteArray × Int × Int × Int × Bool × Int)) × Int × Int × Int × Int × Int) × Int × Int × (List Int) × (List Int) × List Int) =>
    spec_IsBoard k r0 fun (r1 : Bool) =>
    laws_toBoard k aB fun (r2 : ((List (ByteArray × (List Int) × Int × Int × Bool)) × (List (ByteArray × Int × Int × Int × Bool × Int)) × Int × Int × Int × Int × Int) × Int × Int × (List Int) × (List Int) × List Int) =>
    impl_IsBoard k r2 fun (r3 : Bool) =>
    bif !(r3 == r1) then
      K false
    else
      laws_toBoard k aB fun (r4 : ((List (ByteArray × (List Int) × Int × Int × Bool)) × (List (ByteArray × Int × Int × Int × Bool × Int)) × Int × Int × Int × Int × Int) × Int × Int × (List Int) × (List Int) × List Int) =>
      laws_eqBoard k r2 r4 fun (r5 : Bool) =>
      bif !r5 then
        K false
      else
        K true
/-- spec.bAt -/
def spec_bAt (k : Nat) (b : ((List (ByteArray × (List Int) × Int × Int × Bool)) × (List (ByteArray × Int × Int × Int × Bool × Int)) × Int × Int × Int × Int × Int) × Int × Int × (List Int) × (List Int) × List Int) (kind : Int) (i : Int) {R : Type} (K : Bool → Option R) : Option R :=
  spec_bGood k b fun (r : Bool) =>
  bif r then
    spec_l1In kind (0 : Int) (IntKind.wrap .i64 (((List.length b.1.2.1 : Nat) : Int) - (1 : Int))) fun (r0 : Bool) =>
    bif r0 then
      spec_mSize b.2 fun (r1 : Int) =>
      spec_l1In i (0 : Int) (IntKind.wrap .i64 (r1 - (1 : Int))) fun (r2 : Bool) =>
      K r2
    else
      K false
  else
    K false
/-- spec.bTerrain -/
def spec_bTerrain (b : ((List (ByteArray × (List Int) × Int × Int × Bool)) × (List (ByteArray × Int × Int × Int × Bool × Int)) × Int × Int × Int × Int × Int) × Int × Int × (List Int) × (List Int) × List Int) (i : Int) {R : Type} (K : (ByteArray × (List Int) × Int × Int × Bool) → Option R) : Option R :=
  bif decide ((0 : Int) ≤ i) && decide (i < ((List.length b.2.2.2.1 : Nat) : Int)) then
    bif decide ((0 : Int) ≤ List.getD b.2.2.2.1 (Int.toNat i) (0 : Int)) && decide (List.getD b.2.2.2.1 (Int.toNat i) (0 : Int) < ((List.length b.1.1 : Nat) : Int)) then
      K (List.getD b.1.1 (Int.toNat (List.getD b.2.2.2.1 (Int.toNat i) (0 : Int))) ((⟨#[]⟩ : ByteArray), ([], ((0 : Int), ((0 : Int), false)))))
    else
      none
  else
    none
/-- spec.bCost -/
def spec_bCost (b : ((List (ByteArray × (List Int) × Int × Int × Bool)) × (List (ByteArray × Int × Int × Int × Bool × Int)) × Int × Int × Int × Int × Int) × Int × Int × (List Int) × (List Int) × List Int) (kind : Int) (i : Int) {R : Type} (K : Int → Option R) : Option R :=
  spec_bTerrain b i fun (r : ByteArray × (List Int) × Int × Int × Bool) =>
  bif decide ((0 : Int) ≤ kind) && decide (kind < ((List.length r.2.1 : Nat) : Int)) then
    K (List.getD r.2.1 (Int.toNat kind) (0 : Int))
  else
    none
/-- spec.EnterCost -/
def spec_EnterCost (k : Nat) (b : ((List (ByteArray × (List Int) × Int × Int × Bool)) × (List (ByteArray × Int × Int × Int × Bool × Int)) × Int × Int × Int × Int × Int) × Int × Int × (List Int) × (List Int) × List Int) (kind : Int) (i : Int) {R : Type} (K : Int → Bool → Option R) : Option R :=
  spec_bAt k b kind i fun (r : Bool) =>
  bif !r then
    K (0 : Int) false
  else
    spec_bCost b kind i fun (r0 : Int) =>
    K r0 true
/-- impl.isKindOf -/
def impl_isKindOf (k : Nat) (b : ((List (ByteArray × (List Int) × Int × Int × Bool)) × (List (ByteArray × Int × Int × Int × Bool × Int)) × Int × Int × Int × Int × Int) × Int × Int × (List Int) × (List Int) × List Int) (kind : Int) {R : Type} (K : Bool → Option R) : Option R :=
  impl_IsBoard k b fun (r : Bool) =>
  bif r then
    impl_isIndex kind ((List.length b.1.2.1 : Nat) : Int) fun (r0 : Bool) =>
    K r0
  else
    K false
/-- impl.sizeOf -/
def impl_sizeOf (b : ((List (ByteArray × (List Int) × Int × Int × Bool)) × (List (ByteArray × Int × Int × Int × Bool × Int)) × Int × Int × Int × Int × Int) × Int × Int × (List Int) × (List Int) × List Int) {R : Type} (K : Int → Option R) : Option R :=
  K ((List.length b.2.2.2.1 : Nat) : Int)
/-- impl.terrainAt -/
def impl_terrainAt (b : ((List (ByteArray × (List Int) × Int × Int × Bool)) × (List (ByteArray × Int × Int × Int × Bool × Int)) × Int × Int × Int × Int × Int) × Int × Int × (List Int) × (List Int) × List Int) (i : Int) {R : Type} (K : (ByteArray × (List Int) × Int × Int × Bool) → Option R) : Option R :=
  bif decide ((0 : Int) ≤ i) && decide (i < ((List.length b.2.2.2.1 : Nat) : Int)) then
    bif decide ((0 : Int) ≤ List.getD b.2.2.2.1 (Int.toNat i) (0 : Int)) && decide (List.getD b.2.2.2.1 (Int.toNat i) (0 : Int) < ((List.length b.1.1 : Nat) : Int)) then
      K (List.getD b.1.1 (Int.toNat (List.getD b.2.2.2.1 (Int.toNat i) (0 : Int))) ((⟨#[]⟩ : ByteArray), ([], ((0 : Int), ((0 : Int), false)))))
    else
      none
  else
    none
/-- impl.enterCost -/
def impl_enterCost (b : ((List (ByteArray × (List Int) × Int × Int × Bool)) × (List (ByteArray × Int × Int × Int × Bool × Int)) × Int × Int × Int × Int × Int) × Int × Int × (List Int) × (List Int) × List Int) (kind : Int) (i : Int) {R : Type} (K : Int → Option R) : Option R :=
  impl_terrainAt b i fun (r : ByteArray × (List Int) × Int × Int × Bool) =>
  bif decide ((0 : Int) ≤ kind) && decide (kind < ((List.length r.2.1 : Nat) : Int)) then
    K (List.getD r.2.1 (Int.toNat kind) (0 : Int))
  else
    none
/-- impl.EnterCost -/
def impl_EnterCost (k : Nat) (b : ((List (ByteArray × (List Int) × Int × Int × Bool)) × (List (ByteArray × Int × Int × Int × Bool × Int)) × Int × Int × Int × Int × Int) × Int × Int × (List Int) × (List Int) × List Int) (kind : Int) (i : Int) {R : Type} (K : Int → Bool → Option R) : Option R :=
  impl_isKindOf k b kind fun (r : Bool) =>
  bif !r then
    K (0 : Int) false
  else
    impl_sizeOf b fun (r0 : Int) =>
    impl_isIndex i r0 fun (r1 : Bool) =>
    bif !r1 then
      K (0 : Int) false
    else
      impl_enterCost b kind i fun (r2 : Int) =>
      K r2 true
/-- laws.FnExactEnterCost -/
def laws_FnExactEnterCost (k : Nat) (aB : ((List (ByteArray × (List Int) × Int × Int × Bool)) × (List (ByteArray × Int × Int × Int × Bool × Int)) × Int × Int × Int × Int × Int) × Int × Int × (List Int) × (List Int) × List Int) (aKind : Int) (aI : Int) {R : Type} (K : Bool → Option R) : Option R :=
  laws_szBoard k aB (1048576 : Int) fun (r : Int) =>
  bif decide (r < (0 : Int)) then
    K true
  else
    laws_toBoard k aB fun (r0 : ((List (ByteArray × (List Int) × Int × Int × Bool)) × (List (ByteArray × Int × Int × Int × Bool × Int)) × Int × Int × Int × Int × Int) × Int × Int × (List Int) × (List Int) × List Int) =>
    spec_EnterCost k r0 aKind aI fun (r1 : Int) (r2 : Bool) =>
    laws_toBoard k aB fun (r3 : ((List (ByteArray × (List Int) × Int × Int × Bool)) × (List (ByteArray × Int × Int × Int × Bool × Int)) × Int × Int × Int × Int × Int) × Int × Int × (List Int) × (List Int) × List Int) =>
    impl_EnterCost k r3 aKind aI fun (r4 : Int) (r5 : Bool) =>
    bif !(decide (r4 = r1)) then
      K false
    else
      bif !(r5 == r2) then
        K false
      else
        laws_toBoard k aB fun (r6 : ((List (ByteArray × (List Int) × Int × Int × Bool)) × (List (ByteArray × Int × Int × Int × Bool × Int)) × Int × Int × Int × Int × Int) × Int × Int × (List Int) × (List Int) × List Int) =>
        laws_eqBoard k r3 r6 fun (r7 : Bool) =>
        bif !r7 then
          K false
        else
          K true
/-- laws.szUnitS -/
def laws_szUnitS (a : List (Int × Int × Int × Int)) (left : Int) {R : Type} (K : Int → Option R) : Option R :=
  bif decide (IntKind.wrap .i64 (left - ((List.length a : Nat) : Int)) < (0 : Int)) then
    K (-1 : Int)
  else
    K (IntKind.wrap .i64 (left - ((List.length a : Nat) : Int)))
/-- laws.szState -/
def laws_szState (a : Int × Int × List (Int × Int × Int × Int)) (left : Int) {R : Type} (K : Int → Option R) : Option R :=
  laws_szUnitS a.2.2 left fun (r : Int) =>
  bif decide (r < (0 : Int)) then
    K (-1 : Int)
  else
    K r
/-- laws.toUnit -/
def laws_toUnit (a : Int × Int × Int × Int) {R : Type} (K : (Int × Int × Int × Int) → Option R) : Option R :=
  K (a.1, (a.2.1, (a.2.2.1, a.2.2.2)))
/-- laws.toUnitS -/
def laws_toUnitS_l0 (k : Nat) {R : Type} (K0 : (List (Int × Int × Int × Int)) → Option R) : Nat → (List (Int × Int × Int × Int)) → Int → (List (Int × Int × Int × Int)) → Option R
  | 0, _, _, _ => none
  | m + 1, a0, i, out =>
    bif decide (i < ((List.length a0 : Nat) : Int)) then
      bif decide ((0 : Int) ≤ i) && decide (i < ((List.length a0 : Nat) : Int)) then
        laws_toUnit (List.getD a0 (Int.toNat i) ((0 : Int), ((0 : Int), ((0 : Int), (0 : Int))))) fun (r : Int × Int × Int × Int) =>
        bif decide ((0 : Int) ≤ i) && decide (i < ((List.length out : Nat) : Int)) then
          laws_toUnitS_l0 k K0 m a0 (IntKind.wrap .i64 (i + (1 : Int))) (List.set out (Int.toNat i) r)
        else
          none
      else
        none
    else
      K0 out
def laws_toUnitS (k : Nat) (a : List (Int × Int × Int × Int)) {R : Type} (K : (List (Int × Int × Int × Int)) → Option R) : Option R :=
  bif decide ((0 : Int) ≤ ((List.length a : Nat) : Int)) && decide (((List.length a : Nat) : Int) ≤ (137438953472 : Int)) && decide (((List.length a : Nat) : Int) = ((List.length a : Nat) : Int)) then
    laws_toUnitS_l0 k (fun (out0 : List (Int × Int × Int × Int)) =>
      K out0) k a (0 : Int) (List.replicate (Int.toNat ((List.length a : Nat) : Int)) ((0 : Int), ((0 : Int), ((0 : Int), (0 : Int)))))
  else
    none
/-- laws.toState -/
def laws_toState (k : Nat) (a : Int × Int × List (Int × Int × Int × Int)) {R : Type} (K : (Int × Int × List (Int × Int × Int × Int)) → Option R) : Option R :=
  laws_toUnitS k a.2.2 fun (r : List (Int × Int × Int × Int)) =>
  K (a.1, (a.2.1, r))
/-- spec.sUnit -/
def spec_sUnit (b : ((List (ByteArray × (List Int) × Int × Int × Bool)) × (List (ByteArray × Int × Int × Int × Bool × Int)) × Int × Int × Int × Int × Int) × Int × Int × (List Int) × (List Int) × List Int) (u : Int × Int × Int × Int) {R : Type} (K : Bool → Option R) : Option R :=
  spec_l1In u.1 (0 : Int) (1 : Int) fun (r : Bool) =>
  bif !r then
    K false
  else
    spec_l1In u.2.1 (0 : Int) (IntKind.wrap .i64 (((List.length b.1.2.1 : Nat) : Int) - (1 : Int))) fun (r0 : Bool) =>
    bif !r0 then
      K false
    else
      bif decide ((0 : Int) ≤ u.2.1) && decide (u.2.1 < ((List.length b.1.2.1 : Nat) : Int)) then
        spec_l1In u.2.2.2 (0 : Int) (List.getD b.1.2.1 (Int.toNat u.2.1) ((⟨#[]⟩ : ByteArray), ((0 : Int), ((0 : Int), ((0 : Int), (false, (0 : Int))))))).2.2.2.1 fun (r1 : Bool) =>
        bif !r1 then
          K false
        else
          bif decide (u.2.2.1 = (-1 : Int)) then
            K true
          else
            bif decide ((0 : Int) < u.2.2.2) then
              spec_mSize b.2 fun (r2 : Int) =>
              spec_l1In u.2.2.1 (0 : Int) (IntKind.wrap .i64 (r2 - (1 : Int))) fun (r3 : Bool) =>
              bif r3 then
                spec_bCost b u.2.1 u.2.2.1 fun (r4 : Int) =>
                K (decide ((0 : Int) < r4))
              else
                K false
            else
              K false
      else
        none
/-- spec.sAt -/
def spec_sAt_l0 (k : Nat) {R : Type} (K0 : (List Int) → Option R) : Nat → Int → Int → (List (Int × Int × Int × Int)) → Int → Int → (List Int) → Option R
  | 0, _, _, _, _, _, _ => none
  | m + 1, i0, side0, x, x0, x1, out =>
    bif decide (x1 < x0) then
      bif decide ((0 : Int) ≤ x1) && decide (x1 < ((List.length x : Nat) : Int)) then
        bif decide ((List.getD x (Int.toNat x1) ((0 : Int), ((0 : Int), ((0 : Int), (0 : Int))))).2.2.1 = i0) then
          bif decide ((List.getD x (Int.toNat x1) ((0 : Int), ((0 : Int), ((0 : Int), (0 : Int))))).1 = side0) then
            bif decide (List.length out + List.length [x1] ≤ maxGrow) then
              spec_sAt_l0 k K0 m i0 side0 x x0 (IntKind.wrap .i64 (x1 + (1 : Int))) (out ++ [x1])
            else
              none
          else
            spec_sAt_l0 k K0 m i0 side0 x x0 (IntKind.wrap .i64 (x1 + (1 : Int))) out
        else
          spec_sAt_l0 k K0 m i0 side0 x x0 (IntKind.wrap .i64 (x1 + (1 : Int))) out
      else
        none
    else
      K0 out
def spec_sAt (k : Nat) (s : Int × Int × List (Int × Int × Int × Int)) (i : Int) (side : Int) {R : Type} (K : (List Int) → Option R) : Option R :=
  spec_sAt_l0 k (fun (out0 : List Int) =>
    K out0) k i side s.2.2 ((List.length s.2.2 : Nat) : Int) (0 : Int) []
/-- spec.sGood -/
def spec_sGood_l0 (k : Nat) {R : Type} (K0 : (((List (ByteArray × (List Int) × Int × Int × Bool)) × (List (ByteArray × Int × Int × Int × Bool × Int)) × Int × Int × Int × Int × Int) × Int × Int × (List Int) × (List Int) × List Int) → (Int × Int × List (Int × Int × Int × Int)) → Option R) (K1 : Bool → Option R) : Nat → (List (Int × Int × Int × Int)) → Int → Int → (((List (ByteArray × (List Int) × Int × Int × Bool)) × (List (ByteArray × Int × Int × Int × Bool × Int)) × Int × Int × Int × Int × Int) × Int × Int × (List Int) × (List Int) × List Int) → (Int × Int × List (Int × Int × Int × Int)) → Option R
  | 0, _, _, _, _, _ => none
  | m + 1, x1, x2, x3, x4, x5 =>
    bif decide (x3 < x2) then
      bif decide ((0 : Int) ≤ x3) && decide (x3 < ((List.length x1 : Nat) : Int)) then
        spec_sUnit x4 (List.getD x1 (Int.toNat x3) ((0 : Int), ((0 : Int), ((0 : Int), (0 : Int))))) fun (r2 : Bool) =>
        bif !r2 then
          K1 false
        else
          spec_sGood_l0 k K0 K1 m x1 x2 (IntKind.wrap .i64 (x3 + (1 : Int))) x4 x5
      else
        none
    else
      K0 x4 x5
def spec_sGood_l1 (k : Nat) {R : Type} (K0 : Option R) (K1 : Bool → Option R) : Nat → (List (Int × Int × Int × Int)) → Int → Int → (((List (ByteArray × (List Int) × Int × Int × Bool)) × (List (ByteArray × Int × Int × Int × Bool × Int)) × Int × Int × Int × Int × Int) × Int × Int × (List Int) × (List Int) × List Int) → (Int × Int × List (Int × Int × Int × Int)) → Option R
  | 0, _, _, _, _, _ => none
  | m + 1, x8, x9, x10, x11, x12 =>
    bif decide (x10 < x9) then
      bif decide ((0 : Int) ≤ x10) && decide (x10 < ((List.length x8 : Nat) : Int)) then
        bif decide ((0 : Int) ≤ (List.getD x8 (Int.toNat x10) ((0 : Int), ((0 : Int), ((0 : Int), (0 : Int))))).2.2.1) then
          spec_sAt k x12 (List.getD x8 (Int.toNat x10) ((0 : Int), ((0 : Int), ((0 : Int), (0 : Int))))).2.2.1 (IntKind.wrap .i64 ((1 : Int) - (List.getD x8 (Int.toNat x10) ((0 : Int), ((0 : Int), ((0 : Int), (0 : Int))))).1)) fun (r3 : List Int) =>
          bif decide ((0 : Int) < ((List.length r3 : Nat) : Int)) then
            K1 false
          else
            spec_sAt k x12 (List.getD x8 (Int.toNat x10) ((0 : Int), ((0 : Int), ((0 : Int), (0 : Int))))).2.2.1 (List.getD x8 (Int.toNat x10) ((0 : Int), ((0 : Int), ((0 : Int), (0 : Int))))).1 fun (r4 : List Int) =>
            bif decide (x11.1.2.2.1 < ((List.length r4 : Nat) : Int)) then
              K1 false
            else
              spec_sGood_l1 k K0 K1 m x8 x9 (IntKind.wrap .i64 (x10 + (1 : Int))) x11 x12
        else
          spec_sGood_l1 k K0 K1 m x8 x9 (IntKind.wrap .i64 (x10 + (1 : Int))) x11 x12
      else
        none
    else
      K0
def spec_sGood (k : Nat) (x : ((List (ByteArray × (List Int) × Int × Int × Bool)) × (List (ByteArray × Int × Int × Int × Bool × Int)) × Int × Int × Int × Int × Int) × Int × Int × (List Int) × (List Int) × List Int) (x0 : Int × Int × List (Int × Int × Int × Int)) {R : Type} (K : Bool → Option R) : Option R :=
  spec_bGood k x fun (r : Bool) =>
  bif !r then
    K false
  else
    spec_l1In x0.1 (0 : Int) x.1.2.2.2.2.2.2 fun (r0 : Bool) =>
    bif !r0 then
      K false
    else
      spec_l1In x0.2.1 (0 : Int) (2 : Int) fun (r1 : Bool) =>
      bif !r1 then
        K false
      else
        bif decide ((12 : Int) < ((List.length x0.2.2 : Nat) : Int)) then
          K false
        else
          spec_sGood_l0 k (fun (x6 : ((List (ByteArray × (List Int) × Int × Int × Bool)) × (List (ByteArray × Int × Int × Int × Bool × Int)) × Int × Int × Int × Int × Int) × Int × Int × (List Int) × (List Int) × List Int) (x7 : Int × Int × List (Int × Int × Int × Int)) =>
            spec_sGood_l1 k (
              K true) (fun (x13 : Bool) =>
              K x13) k x7.2.2 ((List.length x7.2.2 : Nat) : Int) (0 : Int) x6 x7) (fun (x14 : Bool) =>
            K x14) k x0.2.2 ((List.length x0.2.2 : Nat) : Int) (0 : Int) x x0
/-- spec.IsState -/
def spec_IsState (k : Nat) (b : ((List (ByteArray × (List Int) × Int × Int × Bool)) × (List (ByteArray × Int × Int × Int × Bool × Int)) × Int × Int × Int × Int × Int) × Int × Int × (List Int) × (List Int) × List Int) (s : Int × Int × List (Int × Int × Int × Int)) {R : Type} (K : Bool → Bool → Option R) : Option R :=
  spec_bGood k b fun (r : Bool) =>
  bif !r then
    K false false
  else
    spec_sGood k b s fun (r0 : Bool) =>
    K r0 true
/-- impl.isSide -/
def impl_isSide (side : Int) {R : Type} (K : Bool → Option R) : Option R :=
  impl_inRange side (0 : Int) (1 : Int) fun (r : Bool) =>
  K r
/-- impl.goodUnit -/
def impl_goodUnit (b : ((List (ByteArray × (List Int) × Int × Int × Bool)) × (List (ByteArray × Int × Int × Int × Bool × Int)) × Int × Int × Int × Int × Int) × Int × Int × (List Int) × (List Int) × List Int) (u : Int × Int × Int × Int) {R : Type} (K : Bool → Option R) : Option R :=
  impl_isSide u.1 fun (r : Bool) =>
  bif !r then
    K false
  else
    impl_isIndex u.2.1 ((List.length b.1.2.1 : Nat) : Int) fun (r0 : Bool) =>
    bif !r0 then
      K false
    else
      bif decide ((0 : Int) ≤ u.2.1) && decide (u.2.1 < ((List.length b.1.2.1 : Nat) : Int)) then
        impl_inRange u.2.2.2 (0 : Int) (List.getD b.1.2.1 (Int.toNat u.2.1) ((⟨#[]⟩ : ByteArray), ((0 : Int), ((0 : Int), ((0 : Int), (false, (0 : Int))))))).2.2.2.1 fun (r1 : Bool) =>
        bif !r1 then
          K false
        else
          bif decide (u.2.2.1 = (-1 : Int)) then
            K true
          else
            bif decide ((0 : Int) < u.2.2.2) then
              impl_sizeOf b fun (r2 : Int) =>
              impl_isIndex u.2.2.1 r2 fun (r3 : Bool) =>
              bif r3 then
                impl_enterCost b u.2.1 u.2.2.1 fun (r4 : Int) =>
                K (!(decide (r4 = (0 : Int))))
              else
                K false
            else
              K false
      else
        none
/-- impl.goodState -/
def impl_goodState_l0 (k : Nat) {R : Type} (K0 : Option R) (K1 : Bool → Option R) : Nat → (List (Int × Int × Int × Int)) → Int → Int → (((List (ByteArray × (List Int) × Int × Int × Bool)) × (List (ByteArray × Int × Int × Int × Bool × Int)) × Int × Int × Int × Int × Int) × Int × Int × (List Int) × (List Int) × List Int) → (List (List Int)) → Option R
  | 0, _, _, _, _, _ => none
  | m + 1, x1, x2, x3, x4, x5 =>
    bif decide (x3 < x2) then
      bif decide ((0 : Int) ≤ x3) && decide (x3 < ((List.length x1 : Nat) : Int)) then
        impl_goodUnit x4 (List.getD x1 (Int.toNat x3) ((0 : Int), ((0 : Int), ((0 : Int), (0 : Int))))) fun (r2 : Bool) =>
        bif !r2 then
          K1 false
        else
          bif decide ((List.getD x1 (Int.toNat x3) ((0 : Int), ((0 : Int), ((0 : Int), (0 : Int))))).2.2.1 < (0 : Int)) then
            impl_goodState_l0 k K0 K1 m x1 x2 (IntKind.wrap .i64 (x3 + (1 : Int))) x4 x5
          else
            bif decide ((0 : Int) ≤ (List.getD x1 (Int.toNat x3) ((0 : Int), ((0 : Int), ((0 : Int), (0 : Int))))).2.2.1) && decide ((List.getD x1 (Int.toNat x3) ((0 : Int), ((0 : Int), ((0 : Int), (0 : Int))))).2.2.1 < ((List.length x5 : Nat) : Int)) then
              bif decide ((0 : Int) ≤ (List.getD x1 (Int.toNat x3) ((0 : Int), ((0 : Int), ((0 : Int), (0 : Int))))).1) && decide ((List.getD x1 (Int.toNat x3) ((0 : Int), ((0 : Int), ((0 : Int), (0 : Int))))).1 < (2 : Int)) then
                bif decide ((0 : Int) ≤ (List.getD x1 (Int.toNat x3) ((0 : Int), ((0 : Int), ((0 : Int), (0 : Int))))).2.2.1) && decide ((List.getD x1 (Int.toNat x3) ((0 : Int), ((0 : Int), ((0 : Int), (0 : Int))))).2.2.1 < ((List.length x5 : Nat) : Int)) then
                  bif decide ((0 : Int) ≤ (List.getD x1 (Int.toNat x3) ((0 : Int), ((0 : Int), ((0 : Int), (0 : Int))))).1) && decide ((List.getD x1 (Int.toNat x3) ((0 : Int), ((0 : Int), ((0 : Int), (0 : Int))))).1 < (2 : Int)) then
                    bif decide ((0 : Int) ≤ (List.getD x1 (Int.toNat x3) ((0 : Int), ((0 : Int), ((0 : Int), (0 : Int))))).2.2.1) && decide ((List.getD x1 (Int.toNat x3) ((0 : Int), ((0 : Int), ((0 : Int), (0 : Int))))).2.2.1 < ((List.length (List.set x5 (Int.toNat (List.getD x1 (Int.toNat x3) ((0 : Int), ((0 : Int), ((0 : Int), (0 : Int))))).2.2.1) (List.set (List.getD x5 (Int.toNat (List.getD x1 (Int.toNat x3) ((0 : Int), ((0 : Int), ((0 : Int), (0 : Int))))).2.2.1) (List.replicate 2 (0 : Int))) (Int.toNat (List.getD x1 (Int.toNat x3) ((0 : Int), ((0 : Int), ((0 : Int), (0 : Int))))).1) (IntKind.wrap .i64 ((List.getD (List.getD x5 (Int.toNat (List.getD x1 (Int.toNat x3) ((0 : Int), ((0 : Int), ((0 : Int), (0 : Int))))).2.2.1) (List.replicate 2 (0 : Int))) (Int.toNat (List.getD x1 (Int.toNat x3) ((0 : Int), ((0 : Int), ((0 : Int), (0 : Int))))).1) (0 : Int)) + (1 : Int))))) : Nat) : Int)) then
                      bif decide ((0 : Int) ≤ IntKind.wrap .i64 ((1 : Int) - (List.getD x1 (Int.toNat x3) ((0 : Int), ((0 : Int), ((0 : Int), (0 : Int))))).1)) && decide (IntKind.wrap .i64 ((1 : Int) - (List.getD x1 (Int.toNat x3) ((0 : Int), ((0 : Int), ((0 : Int), (0 : Int))))).1) < (2 : Int)) then
                        bif decide ((0 : Int) < List.getD (List.getD (List.set x5 (Int.toNat (List.getD x1 (Int.toNat x3) ((0 : Int), ((0 : Int), ((0 : Int), (0 : Int))))).2.2.1) (List.set (List.getD x5 (Int.toNat (List.getD x1 (Int.toNat x3) ((0 : Int), ((0 : Int), ((0 : Int), (0 : Int))))).2.2.1) (List.replicate 2 (0 : Int))) (Int.toNat (List.getD x1 (Int.toNat x3) ((0 : Int), ((0 : Int), ((0 : Int), (0 : Int))))).1) (IntKind.wrap .i64 ((List.getD (List.getD x5 (Int.toNat (List.getD x1 (Int.toNat x3) ((0 : Int), ((0 : Int), ((0 : Int), (0 : Int))))).2.2.1) (List.replicate 2 (0 : Int))) (Int.toNat (List.getD x1 (Int.toNat x3) ((0 : Int), ((0 : Int), ((0 : Int), (0 : Int))))).1) (0 : Int)) + (1 : Int))))) (Int.toNat (List.getD x1 (Int.toNat x3) ((0 : Int), ((0 : Int), ((0 : Int), (0 : Int))))).2.2.1) (List.replicate 2 (0 : Int))) (Int.toNat (IntKind.wrap .i64 ((1 : Int) - (List.getD x1 (Int.toNat x3) ((0 : Int), ((0 : Int), ((0 : Int), (0 : Int))))).1))) (0 : Int)) then
                          K1 false
                        else
                          bif decide ((0 : Int) ≤ (List.getD x1 (Int.toNat x3) ((0 : Int), ((0 : Int), ((0 : Int), (0 : Int))))).2.2.1) && decide ((List.getD x1 (Int.toNat x3) ((0 : Int), ((0 : Int), ((0 : Int), (0 : Int))))).2.2.1 < ((List.length (List.set x5 (Int.toNat (List.getD x1 (Int.toNat x3) ((0 : Int), ((0 : Int), ((0 : Int), (0 : Int))))).2.2.1) (List.set (List.getD x5 (Int.toNat (List.getD x1 (Int.toNat x3) ((0 : Int), ((0 : Int), ((0 : Int), (0 : Int))))).2.2.1) (List.replicate 2 (0 : Int))) (Int.toNat (List.getD x1 (Int.toNat x3) ((0 : Int), ((0 : Int), ((0 : Int), (0 : Int))))).1) (IntKind.wrap .i64 ((List.getD (List.getD x5 (Int.toNat (List.getD x1 (Int.toNat x3) ((0 : Int), ((0 : Int), ((0 : Int), (0 : Int))))).2.2.1) (List.replicate 2 (0 : Int))) (Int.toNat (List.getD x1 (Int.toNat x3) ((0 : Int), ((0 : Int), ((0 : Int), (0 : Int))))).1) (0 : Int)) + (1 : Int))))) : Nat) : Int)) then
                            bif decide ((0 : Int) ≤ (List.getD x1 (Int.toNat x3) ((0 : Int), ((0 : Int), ((0 : Int), (0 : Int))))).1) && decide ((List.getD x1 (Int.toNat x3) ((0 : Int), ((0 : Int), ((0 : Int), (0 : Int))))).1 < (2 : Int)) then
                              bif decide (x4.1.2.2.1 < List.getD (List.getD (List.set x5 (Int.toNat (List.getD x1 (Int.toNat x3) ((0 : Int), ((0 : Int), ((0 : Int), (0 : Int))))).2.2.1) (List.set (List.getD x5 (Int.toNat (List.getD x1 (Int.toNat x3) ((0 : Int), ((0 : Int), ((0 : Int), (0 : Int))))).2.2.1) (List.replicate 2 (0 : Int))) (Int.toNat (List.getD x1 (Int.toNat x3) ((0 : Int), ((0 : Int), ((0 : Int), (0 : Int))))).1) (IntKind.wrap .i64 ((List.getD (List.getD x5 (Int.toNat (List.getD x1 (Int.toNat x3) ((0 : Int), ((0 : Int), ((0 : Int), (0 : Int))))).2.2.1) (List.replicate 2 (0 : Int))) (Int.toNat (List.getD x1 (Int.toNat x3) ((0 : Int), ((0 : Int), ((0 : Int), (0 : Int))))).1) (0 : Int)) + (1 : Int))))) (Int.toNat (List.getD x1 (Int.toNat x3) ((0 : Int), ((0 : Int), ((0 : Int), (0 : Int))))).2.2.1) (List.replicate 2 (0 : Int))) (Int.toNat (List.getD x1 (Int.toNat x3) ((0 : Int), ((0 : Int), ((0 : Int), (0 : Int))))).1) (0 : Int)) then
                                K1 false
                              else
                                impl_goodState_l0 k K0 K1 m x1 x2 (IntKind.wrap .i64 (x3 + (1 : Int))) x4 (List.set x5 (Int.toNat (List.getD x1 (Int.toNat x3) ((0 : Int), ((0 : Int), ((0 : Int), (0 : Int))))).2.2.1) (List.set (List.getD x5 (Int.toNat (List.getD x1 (Int.toNat x3) ((0 : Int), ((0 : Int), ((0 : Int), (0 : Int))))).2.2.1) (List.replicate 2 (0 : Int))) (Int.toNat (List.getD x1 (Int.toNat x3) ((0 : Int), ((0 : Int), ((0 : Int), (0 : Int))))).1) (IntKind.wrap .i64 ((List.getD (List.getD x5 (Int.toNat (List.getD x1 (Int.toNat x3) ((0 : Int), ((0 : Int), ((0 : Int), (0 : Int))))).2.2.1) (List.replicate 2 (0 : Int))) (Int.toNat (List.getD x1 (Int.toNat x3) ((0 : Int), ((0 : Int), ((0 : Int), (0 : Int))))).1) (0 : Int)) + (1 : Int)))))
                            else
                              none
                          else
                            none
                      else
                        none
                    else
                      none
                  else
                    none
                else
                  none
              else
                none
            else
              none
      else
        none
    else
      K0
def impl_goodState (k : Nat) (x : ((List (ByteArray × (List Int) × Int × Int × Bool)) × (List (ByteArray × Int × Int × Int × Bool × Int)) × Int × Int × Int × Int × Int) × Int × Int × (List Int) × (List Int) × List Int) (x0 : Int × Int × List (Int × Int × Int × Int)) {R : Type} (K : Bool → Option R) : Option R :=
  impl_inRange x0.1 (0 : Int) x.1.2.2.2.2.2.2 fun (r : Bool) =>
  bif !r then
    K false
  else
    impl_inRange x0.2.1 (0 : Int) (2 : Int) fun (r0 : Bool) =>
    bif !r0 then
      K false
    else
      bif decide ((12 : Int) < ((List.length x0.2.2 : Nat) : Int)) then
        K false
      else
        impl_sizeOf x fun (r1 : Int) =>
        bif decide ((0 : Int) ≤ r1) && decide (r1 ≤ (137438953472 : Int)) && decide (r1 = r1) then
          impl_goodState_l0 k (
            K true) (fun (x6 : Bool) =>
            K x6) k x0.2.2 ((List.length x0.2.2 : Nat) : Int) (0 : Int) x (List.replicate (Int.toNat r1) (List.replicate 2 (0 : Int)))
        else
          none
/-- impl.IsState -/
def impl_IsState (k : Nat) (b : ((List (ByteArray × (List Int) × Int × Int × Bool)) × (List (ByteArray × Int × Int × Int × Bool × Int)) × Int × Int × Int × Int × Int) × Int × Int × (List Int) × (List Int) × List Int) (s : Int × Int × List (Int × Int × Int × Int)) {R : Type} (K : Bool → Bool → Option R) : Option R :=
  impl_IsBoard k b fun (r : Bool) =>
  bif !r then
    K false false
  else
    impl_goodState k b s fun (r0 : Bool) =>
    K r0 true
/-- laws.eqUnit -/
def laws_eqUnit (a : Int × Int × Int × Int) (b : Int × Int × Int × Int) {R : Type} (K : Bool → Option R) : Option R :=
  bif !(decide (a.1 = b.1)) then
    K false
  else
    bif !(decide (a.2.1 = b.2.1)) then
      K false
    else
      bif !(decide (a.2.2.1 = b.2.2.1)) then
        K false
      else
        bif !(decide (a.2.2.2 = b.2.2.2)) then
          K false
        else
          K true
/-- laws.eqUnitS -/
def laws_eqUnitS_l0 (k : Nat) {R : Type} (K0 : Option R) (K1 : Bool → Option R) : Nat → (List (Int × Int × Int × Int)) → (List (Int × Int × Int × Int)) → Int → Option R
  | 0, _, _, _ => none
  | m + 1, a0, b0, i =>
    bif decide (i < ((List.length a0 : Nat) : Int)) then
      bif decide ((0 : Int) ≤ i) && decide (i < ((List.length a0 : Nat) : Int)) then
        bif decide ((0 : Int) ≤ i) && decide (i < ((List.length b0 : Nat) : Int)) then
          laws_eqUnit (List.getD a0 (Int.toNat i) ((0 : Int), ((0 : Int), ((0 : Int), (0 : Int))))) (List.getD b0 (Int.toNat i) ((0 : Int), ((0 : Int), ((0 : Int), (0 : Int))))) fun (r : Bool) =>
          bif !r then
            K1 false
          else
            laws_eqUnitS_l0 k K0 K1 m a0 b0 (IntKind.wrap .i64 (i + (1 : Int)))
        else
          none
      else
        none
    else
      K0
def laws_eqUnitS (k : Nat) (a : List (Int × Int × Int × Int)) (b : List (Int × Int × Int × Int)) {R : Type} (K : Bool → Option R) : Option R :=
  bif !(decide (((List.length a : Nat) : Int) = ((List.length b : Nat) : Int))) then
    K false
  else
    laws_eqUnitS_l0 k (
      K true) (fun (x : Bool) =>
      K x) k a b (0 : Int)
/-- laws.eqState -/
def laws_eqState (k : Nat) (a : Int × Int × List (Int × Int × Int × Int)) (b : Int × Int × List (Int × Int × Int × Int)) {R : Type} (K : Bool → Option R) : Option R :=
  bif !(decide (a.1 = b.1)) then
    K false
  else
    bif !(decide (a.2.1 = b.2.1)) then
      K false
    else
      laws_eqUnitS k a.2.2 b.2.2 fun (r : Bool) =>
      bif !r then
        K false
      else
        K true
/-- laws.FnExactIsState -/
def laws_FnExactIsState (k : Nat) (aB : ((List (ByteArray × (List Int) × Int × Int × Bool)) × (List (ByteArray × Int × Int × Int × Bool × Int)) × Int × Int × Int × Int × Int) × Int × Int × (List Int) × (List Int) × List Int) (aS : Int × Int × List (Int × Int × Int × Int)) {R : Type} (K : Bool → Option R) : Option R :=
  laws_szBoard k aB (1048576 : Int) fun (r : Int) =>
  bif decide (r < (0 : Int)) then
    K true
  else
    laws_szState aS r fun (r0 : Int) =>
    bif decide (r0 < (0 : Int)) then
      K true
    else
      laws_toBoard k aB fun (r1 : ((List (ByteArray × (List Int) × Int × Int × Bool)) × (List (ByteArray × Int × Int × Int × Bool × Int)) × Int × Int × Int × Int × Int) × Int × Int × (List Int) × (List Int) × List Int) =>
      laws_toState k aS fun (r2 : Int × Int × List (Int × Int × Int × Int)) =>
      spec_IsState k r1 r2 fun (r3 : Bool) (r4 : Bool) =>
      laws_toBoard k aB fun (r5 : ((List (ByteArray × (List Int) × Int × Int × Bool)) × (List (ByteArray × Int × Int × Int × Bool × Int)) × Int × Int × Int × Int × Int) × Int × Int × (List Int) × (List Int) × List Int) =>
      laws_toState k aS fun (r6 : Int × Int × List (Int × Int × Int × Int)) =>
      impl_IsState k r5 r6 fun (r7 : Bool) (r8 : Bool) =>
      bif !(r7 == r3) then
        K false
      else
        bif !(r8 == r4) then
          K false
        else
          laws_toBoard k aB fun (r9 : ((List (ByteArray × (List Int) × Int × Int × Bool)) × (List (ByteArray × Int × Int × Int × Bool × Int)) × Int × Int × Int × Int × Int) × Int × Int × (List Int) × (List Int) × List Int) =>
          laws_eqBoard k r5 r9 fun (r10 : Bool) =>
          bif !r10 then
            K false
          else
            laws_toState k aS fun (r11 : Int × Int × List (Int × Int × Int × Int)) =>
            laws_eqState k r6 r11 fun (r12 : Bool) =>
            bif !r12 then
              K false
            else
              K true
/-- spec.sHex -/
def spec_sHex (k : Nat) (b : ((List (ByteArray × (List Int) × Int × Int × Bool)) × (List (ByteArray × Int × Int × Int × Bool × Int)) × Int × Int × Int × Int × Int) × Int × Int × (List Int) × (List Int) × List Int) (s : Int × Int × List (Int × Int × Int × Int)) (i : Int) {R : Type} (K : Bool → Option R) : Option R :=
  spec_sGood k b s fun (r : Bool) =>
  bif r then
    spec_mSize b.2 fun (r0 : Int) =>
    spec_l1In i (0 : Int) (IntKind.wrap .i64 (r0 - (1 : Int))) fun (r1 : Bool) =>
    K r1
  else
    K false
/-- spec.sOwner -/
def spec_sOwner_l0 (k : Nat) {R : Type} (K0 : Option R) (K1 : Int → Option R) : Nat → Int → (List (Int × Int × Int × Int)) → Int → Int → Option R
  | 0, _, _, _, _ => none
  | m + 1, i0, x, x0, x1 =>
    bif decide (x1 < x0) then
      bif decide ((0 : Int) ≤ x1) && decide (x1 < ((List.length x : Nat) : Int)) then
        bif decide ((List.getD x (Int.toNat x1) ((0 : Int), ((0 : Int), ((0 : Int), (0 : Int))))).2.2.1 = i0) then
          K1 (List.getD x (Int.toNat x1) ((0 : Int), ((0 : Int), ((0 : Int), (0 : Int))))).1
        else
          spec_sOwner_l0 k K0 K1 m i0 x x0 (IntKind.wrap .i64 (x1 + (1 : Int)))
      else
        none
    else
      K0
def spec_sOwner (k : Nat) (s : Int × Int × List (Int × Int × Int × Int)) (i : Int) {R : Type} (K : Int → Option R) : Option R :=
  spec_sOwner_l0 k (
    K (-1 : Int)) (fun (x2 : Int) =>
    K x2) k i s.2.2 ((List.length s.2.2 : Nat) : Int) (0 : Int)
/-- spec.OwnerOf -/
def spec_OwnerOf (k : Nat) (b : ((List (ByteArray × (List Int) × Int × Int × Bool)) × (List (ByteArray × Int × Int × Int × Bool × Int)) × Int × Int × Int × Int × Int) × Int × Int × (List Int) × (List Int) × List Int) (s : Int × Int × List (Int × Int × Int × Int)) (i : Int) {R : Type} (K : Int → Bool → Option R) : Option R :=
  spec_sHex k b s i fun (r : Bool) =>
  bif !r then
    K (0 : Int) false
  else
    spec_sOwner k s i fun (r0 : Int) =>
    K r0 true
/-- impl.fits -/
def impl_fits (k : Nat) (b : ((List (ByteArray × (List Int) × Int × Int × Bool)) × (List (ByteArray × Int × Int × Int × Bool × Int)) × Int × Int × Int × Int × Int) × Int × Int × (List Int) × (List Int) × List Int) (s : Int × Int × List (Int × Int × Int × Int)) {R : Type} (K : Bool → Option R) : Option R :=
  impl_IsBoard k b fun (r : Bool) =>
  bif r then
    impl_goodState k b s fun (r0 : Bool) =>
    K r0
  else
    K false
/-- impl.hasHex -/
def impl_hasHex (k : Nat) (b : ((List (ByteArray × (List Int) × Int × Int × Bool)) × (List (ByteArray × Int × Int × Int × Bool × Int)) × Int × Int × Int × Int × Int) × Int × Int × (List Int) × (List Int) × List Int) (s : Int × Int × List (Int × Int × Int × Int)) (i : Int) {R : Type} (K : Bool → Option R) : Option R :=
  impl_fits k b s fun (r : Bool) =>
  bif r then
    impl_sizeOf b fun (r0 : Int) =>
    impl_isIndex i r0 fun (r1 : Bool) =>
    K r1
  else
    K false
/-- impl.ownerOf -/
def impl_ownerOf_l0 (k : Nat) {R : Type} (K0 : Option R) (K1 : Int → Option R) : Nat → Int → (List (Int × Int × Int × Int)) → Int → Int → Option R
  | 0, _, _, _, _ => none
  | m + 1, i0, x, x0, x1 =>
    bif decide (x1 < x0) then
      bif decide ((0 : Int) ≤ x1) && decide (x1 < ((List.length x : Nat) : Int)) then
        bif decide ((List.getD x (Int.toNat x1) ((0 : Int), ((0 : Int), ((0 : Int), (0 : Int))))).2.2.1 = i0) then
          K1 (List.getD x (Int.toNat x1) ((0 : Int), ((0 : Int), ((0 : Int), (0 : Int))))).1
        else
          impl_ownerOf_l0 k K0 K1 m i0 x x0 (IntKind.wrap .i64 (x1 + (1 : Int)))
      else
        none
    else
      K0
def impl_ownerOf (k : Nat) (s : Int × Int × List (Int × Int × Int × Int)) (i : Int) {R : Type} (K : Int → Option R) : Option R :=
  impl_ownerOf_l0 k (
    K (-1 : Int)) (fun (x2 : Int) =>
    K x2) k i s.2.2 ((List.length s.2.2 : Nat) : Int) (0 : Int)
/-- impl.OwnerOf -/
def impl_OwnerOf (k : Nat) (b : ((List (ByteArray × (List Int) × Int × Int × Bool)) × (List (ByteArray × Int × Int × Int × Bool × Int)) × Int × Int × Int × Int × Int) × Int × Int × (List Int) × (List Int) × List Int) (s : Int × Int × List (Int × Int × Int × Int)) (i : Int) {R : Type} (K : Int → Bool → Option R) : Option R :=
  impl_hasHex k b s i fun (r : Bool) =>
  bif !r then
    K (0 : Int) false
  else
    impl_ownerOf k s i fun (r0 : Int) =>
    K r0 true
/-- laws.FnExactOwnerOf -/
def laws_FnExactOwnerOf (k : Nat) (aB : ((List (ByteArray × (List Int) × Int × Int × Bool)) × (List (ByteArray × Int × Int × Int × Bool × Int)) × Int × Int × Int × Int × Int) × Int × Int × (List Int) × (List Int) × List Int) (aS : Int × Int × List (Int × Int × Int × Int)) (aI : Int) {R : Type} (K : Bool → Option R) : Option R :=
  laws_szBoard k aB (1048576 : Int) fun (r : Int) =>
  bif decide (r < (0 : Int)) then
    K true
  else
    laws_szState aS r fun (r0 : Int) =>
    bif decide (r0 < (0 : Int)) then
      K true
    else
      laws_toBoard k aB fun (r1 : ((List (ByteArray × (List Int) × Int × Int × Bool)) × (List (ByteArray × Int × Int × Int × Bool × Int)) × Int × Int × Int × Int × Int) × Int × Int × (List Int) × (List Int) × List Int) =>
      laws_toState k aS fun (r2 : Int × Int × List (Int × Int × Int × Int)) =>
      spec_OwnerOf k r1 r2 aI fun (r3 : Int) (r4 : Bool) =>
      laws_toBoard k aB fun (r5 : ((List (ByteArray × (List Int) × Int × Int × Bool)) × (List (ByteArray × Int × Int × Int × Bool × Int)) × Int × Int × Int × Int × Int) × Int × Int × (List Int) × (List Int) × List Int) =>
      laws_toState k aS fun (r6 : Int × Int × List (Int × Int × Int × Int)) =>
      impl_OwnerOf k r5 r6 aI fun (r7 : Int) (r8 : Bool) =>
      bif !(decide (r7 = r3)) then
        K false
      else
        bif !(r8 == r4) then
          K false
        else
          laws_toBoard k aB fun (r9 : ((List (ByteArray × (List Int) × Int × Int × Bool)) × (List (ByteArray × Int × Int × Int × Bool × Int)) × Int × Int × Int × Int × Int) × Int × Int × (List Int) × (List Int) × List Int) =>
          laws_eqBoard k r5 r9 fun (r10 : Bool) =>
          bif !r10 then
            K false
          else
            laws_toState k aS fun (r11 : Int × Int × List (Int × Int × Int × Int)) =>
            laws_eqState k r6 r11 fun (r12 : Bool) =>
            bif !r12 then
              K false
            else
              K true
/-- spec.sOf -/
def spec_sOf_l0 (k : Nat) {R : Type} (K0 : (List Int) → Option R) : Nat → Int → (List (Int × Int × Int × Int)) → Int → Int → (List Int) → Option R
  | 0, _, _, _, _, _ => none
  | m + 1, side0, x, x0, x1, out =>
    bif decide (x1 < x0) then
      bif decide ((0 : Int) ≤ x1) && decide (x1 < ((List.length x : Nat) : Int)) then
        bif decide ((List.getD x (Int.toNat x1) ((0 : Int), ((0 : Int), ((0 : Int), (0 : Int))))).1 = side0) then
          bif decide ((0 : Int) ≤ (List.getD x (Int.toNat x1) ((0 : Int), ((0 : Int), ((0 : Int), (0 : Int))))).2.2.1) then
            bif decide (List.length out + List.length [x1] ≤ maxGrow) then
              spec_sOf_l0 k K0 m side0 x x0 (IntKind.wrap .i64 (x1 + (1 : Int))) (out ++ [x1])
            else
              none
          else
            spec_sOf_l0 k K0 m side0 x x0 (IntKind.wrap .i64 (x1 + (1 : Int))) out
        else
          spec_sOf_l0 k K0 m side0 x x0 (IntKind.wrap .i64 (x1 + (1 : Int))) out
      else
        none
    else
      K0 out
def spec_sOf (k : Nat) (s : Int × Int × List (Int × Int × Int × Int)) (side : Int) {R : Type} (K : (List Int) → Option R) : Option R :=
  spec_sOf_l0 k (fun (out0 : List Int) =>
    K out0) k side s.2.2 ((List.length s.2.2 : Nat) : Int) (0 : Int) []
/-- spec.sSteps -/
def spec_sSteps_l0 (k : Nat) {R : Type} (K0 : Int → Option R) : Nat → Int → (List Int) → Int → Int → (Int × Int × List (Int × Int × Int × Int)) → Option R
  | 0, _, _, _, _, _ => none
  | m + 1, sum_, x, x0, x1, s0 =>
    bif decide (x1 < x0) then
      bif decide ((0 : Int) ≤ x1) && decide (x1 < ((List.length x : Nat) : Int)) then
        bif decide ((0 : Int) ≤ List.getD x (Int.toNat x1) (0 : Int)) && decide (List.getD x (Int.toNat x1) (0 : Int) < ((List.length s0.2.2 : Nat) : Int)) then
          spec_sSteps_l0 k K0 m (IntKind.wrap .i64 (sum_ + (List.getD s0.2.2 (Int.toNat (List.getD x (Int.toNat x1) (0 : Int))) ((0 : Int), ((0 : Int), ((0 : Int), (0 : Int))))).2.2.2)) x x0 (IntKind.wrap .i64 (x1 + (1 : Int))) s0
        else
          none
      else
        none
    else
      K0 sum_
def spec_sSteps (k : Nat) (s : Int × Int × List (Int × Int × Int × Int)) (side : Int) {R : Type} (K : Int → Option R) : Option R :=
  spec_sOf k s side fun (r : List Int) =>
  spec_sSteps_l0 k (fun (sum_0 : Int) =>
    K sum_0) k (0 : Int) r ((List.length r : Nat) : Int) (0 : Int) s
/-- spec.CountSteps -/
def spec_CountSteps (k : Nat) (b : ((List (ByteArray × (List Int) × Int × Int × Bool)) × (List (ByteArray × Int × Int × Int × Bool × Int)) × Int × Int × Int × Int × Int) × Int × Int × (List Int) × (List Int) × List Int) (s : Int × Int × List (Int × Int × Int × Int)) {R : Type} (K : Int → Int → Bool → Option R) : Option R :=
  spec_sGood k b s fun (r : Bool) =>
  bif !r then
    K (0 : Int) (0 : Int) false
  else
    spec_sSteps k s (0 : Int) fun (r0 : Int) =>
    spec_sSteps k s (1 : Int) fun (r1 : Int) =>
    K r0 r1 true
/-- impl.CountSteps -/
def impl_CountSteps_l0 (k : Nat) {R : Type} (K0 : (List Int) → Option R) : Nat → (List (Int × Int × Int × Int)) → Int → Int → (List Int) → Option R
  | 0, _, _, _, _ => none
  | m + 1, x, x0, x1, sums =>
    bif decide (x1 < x0) then
      bif decide ((0 : Int) ≤ x1) && decide (x1 < ((List.length x : Nat) : Int)) then
        bif decide ((0 : Int) ≤ (List.getD x (Int.toNat x1) ((0 : Int), ((0 : Int), ((0 : Int), (0 : Int))))).2.2.1) then
          bif decide ((0 : Int) ≤ (List.getD x (Int.toNat x1) ((0 : Int), ((0 : Int), ((0 : Int), (0 : Int))))).1) && decide ((List.getD x (Int.toNat x1) ((0 : Int), ((0 : Int), ((0 : Int), (0 : Int))))).1 < (2 : Int)) then
            bif decide ((0 : Int) ≤ (List.getD x (Int.toNat x1) ((0 : Int), ((0 : Int), ((0 : Int), (0 : Int))))).1) && decide ((List.getD x (Int.toNat x1) ((0 : Int), ((0 : Int), ((0 : Int), (0 : Int))))).1 < (2 : Int)) then
              impl_CountSteps_l0 k K0 m x x0 (IntKind.wrap .i64 (x1 + (1 : Int))) (List.set sums (Int.toNat (List.getD x (Int.toNat x1) ((0 : Int), ((0 : Int), ((0 : Int), (0 : Int))))).1) (IntKind.wrap .i64 ((List.getD sums (Int.toNat (List.getD x (Int.toNat x1) ((0 : Int), ((0 : Int), ((0 : Int), (0 : Int))))).1) (0 : Int)) + (List.getD x (Int.toNat x1) ((0 : Int), ((0 : Int), ((0 : Int), (0 : Int))))).2.2.2)))
            else
              none
          else
            none
        else
          impl_CountSteps_l0 k K0 m x x0 (IntKind.wrap .i64 (x1 + (1 : Int))) sums
      else
        none
    else
      K0 sums
def impl_CountSteps (k : Nat) (b : ((List (ByteArray × (List Int) × Int × Int × Bool)) × (List (ByteArray × Int × Int × Int × Bool × Int)) × Int × Int × Int × Int × Int) × Int × Int × (List Int) × (List Int) × List Int) (s : Int × Int × List (Int × Int × Int × Int)) {R : Type} (K : Int → Int → Bool → Option R) : Option R :=
  impl_fits k b s fun (r : Bool) =>
  bif !r then
    K (0 : Int) (0 : Int) false
  else
    impl_CountSteps_l0 k (fun (sums0 : List Int) =>
      K (List.getD sums0 0 (0 : Int)) (List.getD sums0 1 (0 : Int)) true) k s.2.2 ((List.length s.2.2 : Nat) : Int) (0 : Int) [(0 : Int), (0 : Int)]
/-- laws.FnExactCountSteps -/
def laws_FnExactCountSteps (k : Nat) (x : ((List (ByteArray × (List Int) × Int × Int × Bool)) × (List (ByteArray × Int × Int × Int × Bool × Int)) × Int × Int × Int × Int × Int) × Int × Int × (List Int) × (List Int) × List Int) (x0 : Int × Int × List (Int × Int × Int × Int)) {R : Type} (K : Bool → Option R) : Option R :=
  laws_szBoard k x (1048576 : Int) fun (r : Int) =>
  bif decide (r < (0 : Int)) then
    K true
  else
    laws_szState x0 r fun (r0 : Int) =>
    bif decide (r0 < (0 : Int)) then
      K true
    else
      laws_toBoard k x fun (r1 : ((List (ByteArray × (List Int) × Int × Int × Bool)) × (List (ByteArray × Int × Int × Int × Bool × Int)) × Int × Int × Int × Int × Int) × Int × Int × (List Int) × (List Int) × List Int) =>
      laws_toState k x0 fun (r2 : Int × Int × List (Int × Int × Int × Int)) =>
      spec_CountSteps k r1 r2 fun (r3 : Int) (r4 : Int) (r5 : Bool) =>
      laws_toBoard k x fun (r6 : ((List (ByteArray × (List Int) × Int × Int × Bool)) × (List (ByteArray × Int × Int × Int × Bool × Int)) × Int × Int × Int × Int × Int) × Int × Int × (List Int) × (List Int) × List Int) =>
      laws_toState k x0 fun (r7 : Int × Int × List (Int × Int × Int × Int)) =>
      impl_CountSteps k r6 r7 fun (r8 : Int) (r9 : Int) (r10 : Bool) =>
      bif !(decide (r8 = r3)) then
        K false
      else
        bif !(decide (r9 = r4)) then
          K false
        else
          bif !(r10 == r5) then
            K false
          else
            laws_toBoard k x fun (r11 : ((List (ByteArray × (List Int) × Int × Int × Bool)) × (List (ByteArray × Int × Int × Int × Bool × Int)) × Int × Int × Int × Int × Int) × Int × Int × (List Int) × (List Int) × List Int) =>
            laws_eqBoard k r6 r11 fun (r12 : Bool) =>
            bif !r12 then
              K false
            else
              laws_toState k x0 fun (r13 : Int × Int × List (Int × Int × Int × Int)) =>
              laws_eqState k r7 r13 fun (r14 : Bool) =>
              bif !r14 then
                K false
              else
                K true
/-- spec.sStrength -/
def spec_sStrength_l0 (k : Nat) {R : Type} (K0 : Int → Option R) : Nat → Int → (List Int) → Int → Int → (((List (ByteArray × (List Int) × Int × Int × Bool)) × (List (ByteArray × Int × Int × Int × Bool × Int)) × Int × Int × Int × Int × Int) × Int × Int × (List Int) × (List Int) × List Int) → (Int × Int × List (Int × Int × Int × Int)) → Option R
  | 0, _, _, _, _, _, _ => none
  | m + 1, sum_, x, x0, x1, b0, s0 =>
    bif decide (x1 < x0) then
      bif decide ((0 : Int) ≤ x1) && decide (x1 < ((List.length x : Nat) : Int)) then
        bif decide ((0 : Int) ≤ List.getD x (Int.toNat x1) (0 : Int)) && decide (List.getD x (Int.toNat x1) (0 : Int) < ((List.length s0.2.2 : Nat) : Int)) then
          bif decide ((0 : Int) ≤ (List.getD s0.2.2 (Int.toNat (List.getD x (Int.toNat x1) (0 : Int))) ((0 : Int), ((0 : Int), ((0 : Int), (0 : Int))))).2.1) && decide ((List.getD s0.2.2 (Int.toNat (List.getD x (Int.toNat x1) (0 : Int))) ((0 : Int), ((0 : Int), ((0 : Int), (0 : Int))))).2.1 < ((List.length b0.1.2.1 : Nat) : Int)) then
            bif decide ((0 : Int) ≤ List.getD x (Int.toNat x1) (0 : Int)) && decide (List.getD x (Int.toNat x1) (0 : Int) < ((List.length s0.2.2 : Nat) : Int)) then
              spec_sStrength_l0 k K0 m (IntKind.wrap .i64 (sum_ + (IntKind.wrap .i64 ((List.getD b0.1.2.1 (Int.toNat (List.getD s0.2.2 (Int.toNat (List.getD x (Int.toNat x1) (0 : Int))) ((0 : Int), ((0 : Int), ((0 : Int), (0 : Int))))).2.1) ((⟨#[]⟩ : ByteArray), ((0 : Int), ((0 : Int), ((0 : Int), (false, (0 : Int))))))).2.1 * (List.getD s0.2.2 (Int.toNat (List.getD x (Int.toNat x1) (0 : Int))) ((0 : Int), ((0 : Int), ((0 : Int), (0 : Int))))).2.2.2)))) x x0 (IntKind.wrap .i64 (x1 + (1 : Int))) b0 s0
            else
              none
          else
            none
        else
          none
      else
        none
    else
      K0 sum_
def spec_sStrength (k : Nat) (b : ((List (ByteArray × (List Int) × Int × Int × Bool)) × (List (ByteArray × Int × Int × Int × Bool × Int)) × Int × Int × Int × Int × Int) × Int × Int × (List Int) × (List Int) × List Int) (s : Int × Int × List (Int × Int × Int × Int)) (side : Int) (i : Int) {R : Type} (K : Int → Option R) : Option R :=
  spec_sAt k s i side fun (r : List Int) =>
  spec_sStrength_l0 k (fun (sum_0 : Int) =>
    K sum_0) k (0 : Int) r ((List.length r : Nat) : Int) (0 : Int) b s
/-- spec.StrengthAt -/
def spec_StrengthAt (k : Nat) (b : ((List (ByteArray × (List Int) × Int × Int × Bool)) × (List (ByteArray × Int × Int × Int × Bool × Int)) × Int × Int × Int × Int × Int) × Int × Int × (List Int) × (List Int) × List Int) (s : Int × Int × List (Int × Int × Int × Int)) (side : Int) (i : Int) {R : Type} (K : Int → Bool → Option R) : Option R :=
  spec_sHex k b s i fun (r : Bool) =>
  bif !r then
    K (0 : Int) false
  else
    spec_l1In side (0 : Int) (1 : Int) fun (r0 : Bool) =>
    bif !r0 then
      K (0 : Int) false
    else
      spec_sStrength k b s side i fun (r1 : Int) =>
      K r1 true
/-- impl.unitsAt -/
def impl_unitsAt_l0 (k : Nat) {R : Type} (K0 : (List Int) → Option R) : Nat → Int → (List (Int × Int × Int × Int)) → Int → Int → (List Int) → Option R
  | 0, _, _, _, _, _ => none
  | m + 1, i0, x, x0, x1, out =>
    bif decide (x1 < x0) then
      bif decide ((0 : Int) ≤ x1) && decide (x1 < ((List.length x : Nat) : Int)) then
        bif decide ((List.getD x (Int.toNat x1) ((0 : Int), ((0 : Int), ((0 : Int), (0 : Int))))).2.2.1 = i0) then
          bif decide (List.length out + List.length [x1] ≤ maxGrow) then
            impl_unitsAt_l0 k K0 m i0 x x0 (IntKind.wrap .i64 (x1 + (1 : Int))) (out ++ [x1])
          else
            none
        else
          impl_unitsAt_l0 k K0 m i0 x x0 (IntKind.wrap .i64 (x1 + (1 : Int))) out
      else
        none
    else
      K0 out
def impl_unitsAt (k : Nat) (s : Int × Int × List (Int × Int × Int × Int)) (i : Int) {R : Type} (K : (List Int) → Option R) : Option R :=
  impl_unitsAt_l0 k (fun (out0 : List Int) =>
    K out0) k i s.2.2 ((List.length s.2.2 : Nat) : Int) (0 : Int) []
/-- impl.forceOf -/
def impl_forceOf (b : ((List (ByteArray × (List Int) × Int × Int × Bool)) × (List (ByteArray × Int × Int × Int × Bool × Int)) × Int × Int × Int × Int × Int) × Int × Int × (List Int) × (List Int) × List Int) (u : Int × Int × Int × Int) {R : Type} (K : Int → Option R) : Option R :=
  bif decide ((0 : Int) ≤ u.2.1) && decide (u.2.1 < ((List.length b.1.2.1 : Nat) : Int)) then
    K (IntKind.wrap .i64 ((List.getD b.1.2.1 (Int.toNat u.2.1) ((⟨#[]⟩ : ByteArray), ((0 : Int), ((0 : Int), ((0 : Int), (false, (0 : Int))))))).2.1 * u.2.2.2))
  else
    none
/-- impl.StrengthAt -/
def impl_StrengthAt_l0 (k : Nat) {R : Type} (K0 : Int → Option R) : Nat → Int → Int → Int → Int → (((List (ByteArray × (List Int) × Int × Int × Bool)) × (List (ByteArray × Int × Int × Int × Bool × Int)) × Int × Int × Int × Int × Int) × Int × Int × (List Int) × (List Int) × List Int) → (Int × Int × List (Int × Int × Int × Int)) → (List Int) → Option R
  | 0, _, _, _, _, _, _, _ => none
  | m + 1, side0, sum_, x, x0, b0, s0, x1 =>
    bif decide (x0 < x) then
      bif decide ((0 : Int) ≤ x0) && decide (x0 < ((List.length x1 : Nat) : Int)) then
        bif decide ((0 : Int) ≤ List.getD x1 (Int.toNat x0) (0 : Int)) && decide (List.getD x1 (Int.toNat x0) (0 : Int) < ((List.length s0.2.2 : Nat) : Int)) then
          bif decide ((List.getD s0.2.2 (Int.toNat (List.getD x1 (Int.toNat x0) (0 : Int))) ((0 : Int), ((0 : Int), ((0 : Int), (0 : Int))))).1 = side0) then
            bif decide ((0 : Int) ≤ List.getD x1 (Int.toNat x0) (0 : Int)) && decide (List.getD x1 (Int.toNat x0) (0 : Int) < ((List.length s0.2.2 : Nat) : Int)) then
              impl_forceOf b0 (List.getD s0.2.2 (Int.toNat (List.getD x1 (Int.toNat x0) (0 : Int))) ((0 : Int), ((0 : Int), ((0 : Int), (0 : Int))))) fun (r2 : Int) =>
              impl_StrengthAt_l0 k K0 m side0 (IntKind.wrap .i64 (sum_ + r2)) x (IntKind.wrap .i64 (x0 + (1 : Int))) b0 s0 x1
            else
              none
          else
            impl_StrengthAt_l0 k K0 m side0 sum_ x (IntKind.wrap .i64 (x0 + (1 : Int))) b0 s0 x1
        else
          none
      else
        none
    else
      K0 sum_
def impl_StrengthAt (k : Nat) (b : ((List (ByteArray × (List Int) × Int × Int × Bool)) × (List (ByteArray × Int × Int × Int × Bool × Int)) × Int × Int × Int × Int × Int) × Int × Int × (List Int) × (List Int) × List Int) (s : Int × Int × List (Int × Int × Int × Int)) (side : Int) (i : Int) {R : Type} (K : Int → Bool → Option R) : Option R :=
  impl_hasHex k b s i fun (r : Bool) =>
  bif !r then
    K (0 : Int) false
  else
    impl_isSide side fun (r0 : Bool) =>
    bif !r0 then
      K (0 : Int) false
    else
      impl_unitsAt k s i fun (r1 : List Int) =>
      impl_StrengthAt_l0 k (fun (sum_0 : Int) =>
        K sum_0 true) k side (0 : Int) ((List.length r1 : Nat) : Int) (0 : Int) b s r1
/-- laws.FnExactStrengthAt -/
def laws_FnExactStrengthAt (k : Nat) (x : ((List (ByteArray × (List Int) × Int × Int × Bool)) × (List (ByteArray × Int × Int × Int × Bool × Int)) × Int × Int × Int × Int × Int) × Int × Int × (List Int) × (List Int) × List Int) (x0 : Int × Int × List (Int × Int × Int × Int)) (x1 : Int) (x2 : Int) {R : Type} (K : Bool → Option R) : Option R :=
  laws_szBoard k x (1048576 : Int) fun (r : Int) =>
  bif decide (r < (0 : Int)) then
    K true
  else
    laws_szState x0 r fun (r0 : Int) =>
    bif decide (r0 < (0 : Int)) then
      K true
    else
      laws_toBoard k x fun (r1 : ((List (ByteArray × (List Int) × Int × Int × Bool)) × (List (ByteArray × Int × Int × Int × Bool × Int)) × Int × Int × Int × Int × Int) × Int × Int × (List Int) × (List Int) × List Int) =>
      laws_toState k x0 fun (r2 : Int × Int × List (Int × Int × Int × Int)) =>
      spec_StrengthAt k r1 r2 x1 x2 fun (r3 : Int) (r4 : Bool) =>
      laws_toBoard k x fun (r5 : ((List (ByteArray × (List Int) × Int × Int × Bool)) × (List (ByteArray × Int × Int × Int × Bool × Int)) × Int × Int × Int × Int × Int) × Int × Int × (List Int) × (List Int) × List Int) =>
      laws_toState k x0 fun (r6 : Int × Int × List (Int × Int × Int × Int)) =>
      impl_StrengthAt k r5 r6 x1 x2 fun (r7 : Int) (r8 : Bool) =>
      bif !(decide (r7 = r3)) then
        K false
      else
        bif !(r8 == r4) then
          K false
        else
          laws_toBoard k x fun (r9 : ((List (ByteArray × (List Int) × Int × Int × Bool)) × (List (ByteArray × Int × Int × Int × Bool × Int)) × Int × Int × Int × Int × Int) × Int × Int × (List Int) × (List Int) × List Int) =>
          laws_eqBoard k r5 r9 fun (r10 : Bool) =>
          bif !r10 then
            K false
          else
            laws_toState k x0 fun (r11 : Int × Int × List (Int × Int × Int × Int)) =>
            laws_eqState k r6 r11 fun (r12 : Bool) =>
            bif !r12 then
              K false
            else
              K true
end Go.Lg
set_option linter.unusedVariables false
namespace Go.Lg
open Go Go.Ev
/-- spec.kText -/
def spec_kText_l0 (k : Nat) {R : Type} (K0 : ByteArray → ((List (Int × Int)) × Int × List (List Int)) → Option R) : Nat → ByteArray → (List (Int × Int)) → Int → Int → ((List (Int × Int)) × Int × List (List Int)) → Option R
  | 0, _, _, _, _, _ => none
  | m + 1, out, x, x0, x1, t0 =>
    bif decide (x1 < x0) then
      bif decide ((0 : Int) ≤ x1) && decide (x1 < ((List.length x : Nat) : Int)) then
        spec_l1Num k (List.getD x (Int.toNat x1) ((0 : Int), (0 : Int))).1 fun (r : ByteArray) =>
        bif decide (ByteArray.size (⟨#[32]⟩ : ByteArray) + ByteArray.size r ≤ maxGrow) then
          bif decide (ByteArray.size ((⟨#[32]⟩ : ByteArray) ++ r) + ByteArray.size (⟨#[47]⟩ : ByteArray) ≤ maxGrow) then
            spec_l1Num k (List.getD x (Int.toNat x1) ((0 : Int), (0 : Int))).2 fun (r0 : ByteArray) =>
            bif decide (ByteArray.size (((⟨#[32]⟩ : ByteArray) ++ r) ++ (⟨#[47]⟩ : ByteArray)) + ByteArray.size r0 ≤ maxGrow) then
              bif decide (ByteArray.size out + ByteArray.size ((((⟨#[32]⟩ : ByteArray) ++ r) ++ (⟨#[47]⟩ : ByteArray)) ++ r0) ≤ maxGrow) then
                spec_kText_l0 k K0 m (out ++ ((((⟨#[32]⟩ : ByteArray) ++ r) ++ (⟨#[47]⟩ : ByteArray)) ++ r0)) x x0 (IntKind.wrap .i64 (x1 + (1 : Int))) t0
              else
                none
            else
              none
          else
            none
        else
          none
      else
        none
    else
      K0 out t0
def spec_kText_l1 (k : Nat) {R : Type} (K0 : ByteArray → (List (List Int)) → Int → Int → Option R) : Nat → ByteArray → (List (List Int)) → Int → Int → (List Int) → Int → Int → Option R
  | 0, _, _, _, _, _, _, _ => none
  | m + 1, out2, x5, x6, x7, x8, x9, x10 =>
    bif decide (x10 < x9) then
      bif decide ((0 : Int) ≤ x10) && decide (x10 < ((List.length x8 : Nat) : Int)) then
        spec_l1Num k (List.getD x8 (Int.toNat x10) (0 : Int)) fun (r2 : ByteArray) =>
        bif decide (ByteArray.size out2 + ByteArray.size r2 ≤ maxGrow) then
          spec_kText_l1 k K0 m (out2 ++ r2) x5 x6 x7 x8 x9 (IntKind.wrap .i64 (x10 + (1 : Int)))
        else
          none
      else
        none
    else
      K0 out2 x5 x6 x7
def spec_kText_l2 (k : Nat) {R : Type} (K0 : ByteArray → Option R) : Nat → ByteArray → (List (List Int)) → Int → Int → Option R
  | 0, _, _, _, _ => none
  | m + 1, out1, x2, x3, x4 =>
    bif decide (x4 < x3) then
      bif decide ((0 : Int) ≤ x4) && decide (x4 < ((List.length x2 : Nat) : Int)) then
        spec_kText_l1 k (fun (out3 : ByteArray) (x11 : List (List Int)) (x12 : Int) (x13 : Int) =>
          bif decide (ByteArray.size out3 + ByteArray.size (⟨#[10]⟩ : ByteArray) ≤ maxGrow) then
            spec_kText_l2 k K0 m (out3 ++ (⟨#[10]⟩ : ByteArray)) x11 x12 (IntKind.wrap .i64 (x13 + (1 : Int)))
          else
            none) k out1 x2 x3 x4 (List.getD x2 (Int.toNat x4) []) ((List.length (List.getD x2 (Int.toNat x4) []) : Nat) : Int) (0 : Int)
      else
        none
    else
      K0 out1
def spec_kText (k : Nat) (t : (List (Int × Int)) × Int × List (List Int)) {R : Type} (K : ByteArray → Option R) : Option R :=
  spec_kText_l0 k (fun (out0 : ByteArray) (t1 : (List (Int × Int)) × Int × List (List Int)) =>
    spec_l1Num k t1.2.1 fun (r1 : ByteArray) =>
    bif decide (ByteArray.size (⟨#[32, 100, 105, 99, 101, 32]⟩ : ByteArray) + ByteArray.size r1 ≤ maxGrow) then
      bif decide (ByteArray.size ((⟨#[32, 100, 105, 99, 101, 32]⟩ : ByteArray) ++ r1) + ByteArray.size (⟨#[10]⟩ : ByteArray) ≤ maxGrow) then
        bif decide (ByteArray.size out0 + ByteArray.size (((⟨#[32, 100, 105, 99, 101, 32]⟩ : ByteArray) ++ r1) ++ (⟨#[10]⟩ : ByteArray)) ≤ maxGrow) then
          spec_kText_l2 k (fun (out4 : ByteArray) =>
            K out4) k (out0 ++ (((⟨#[32, 100, 105, 99, 101, 32]⟩ : ByteArray) ++ r1) ++ (⟨#[10]⟩ : ByteArray))) t1.2.2 ((List.length t1.2.2 : Nat) : Int) (0 : Int)
        else
          none
      else
        none
    else
      none) k (⟨#[111, 100, 100, 115]⟩ : ByteArray) t.1 ((List.length t.1 : Nat) : Int) (0 : Int) t
/-- spec.TableText -/
def spec_TableText (k : Nat) (t : (List (Int × Int)) × Int × List (List Int)) {R : Type} (K : ByteArray → Bool → Option R) : Option R :=
  spec_kGood k t fun (r : Bool) =>
  bif !r then
    K (⟨#[]⟩ : ByteArray) false
  else
    spec_kText k t fun (r0 : ByteArray) =>
    K r0 true
/-- impl.tableText -/
def impl_tableText_l0 (k : Nat) {R : Type} (K0 : ByteArray → ((List (Int × Int)) × Int × List (List Int)) → Option R) : Nat → ByteArray → (List (Int × Int)) → Int → Int → ((List (Int × Int)) × Int × List (List Int)) → Option R
  | 0, _, _, _, _, _ => none
  | m + 1, out, x, x0, x1, t0 =>
    bif decide (x1 < x0) then
      bif decide ((0 : Int) ≤ x1) && decide (x1 < ((List.length x : Nat) : Int)) then
        strconv_Itoa (List.getD x (Int.toNat x1) ((0 : Int), (0 : Int))).1 fun (r : ByteArray) =>
        bif decide (ByteArray.size (⟨#[32]⟩ : ByteArray) + ByteArray.size r ≤ maxGrow) then
          bif decide (ByteArray.size ((⟨#[32]⟩ : ByteArray) ++ r) + ByteArray.size (⟨#[47]⟩ : ByteArray) ≤ maxGrow) then
            strconv_Itoa (List.getD x (Int.toNat x1) ((0 : Int), (0 : Int))).2 fun (r0 : ByteArray) =>
            bif decide (ByteArray.size (((⟨#[32]⟩ : ByteArray) ++ r) ++ (⟨#[47]⟩ : ByteArray)) + ByteArray.size r0 ≤ maxGrow) then
              bif decide (ByteArray.size out + ByteArray.size ((((⟨#[32]⟩ : ByteArray) ++ r) ++ (⟨#[47]⟩ : ByteArray)) ++ r0) ≤ maxGrow) then
                impl_tableText_l0 k K0 m (out ++ ((((⟨#[32]⟩ : ByteArray) ++ r) ++ (⟨#[47]⟩ : ByteArray)) ++ r0)) x x0 (IntKind.wrap .i64 (x1 + (1 : Int))) t0
              else
                none
            else
              none
          else
            none
        else
          none
      else
        none
    else
      K0 out t0
def impl_tableText_l1 (k : Nat) {R : Type} (K0 : ByteArray → (List (List Int)) → Int → Int → Option R) : Nat → ByteArray → (List (List Int)) → Int → Int → (List Int) → Int → Int → Option R
  | 0, _, _, _, _, _, _, _ => none
  | m + 1, out2, x5, x6, x7, x8, x9, x10 =>
    bif decide (x10 < x9) then
      bif decide ((0 : Int) ≤ x10) && decide (x10 < ((List.length x8 : Nat) : Int)) then
        strconv_Itoa (List.getD x8 (Int.toNat x10) (0 : Int)) fun (r2 : ByteArray) =>
        bif decide (ByteArray.size out2 + ByteArray.size r2 ≤ maxGrow) then
          impl_tableText_l1 k K0 m (out2 ++ r2) x5 x6 x7 x8 x9 (IntKind.wrap .i64 (x10 + (1 : Int)))
        else
          none
      else
        none
    else
      K0 out2 x5 x6 x7
def impl_tableText_l2 (k : Nat) {R : Type} (K0 : ByteArray → Option R) : Nat → ByteArray → (List (List Int)) → Int → Int → Option R
  | 0, _, _, _, _ => none
  | m + 1, out1, x2, x3, x4 =>
    bif decide (x4 < x3) then
      bif decide ((0 : Int) ≤ x4) && decide (x4 < ((List.length x2 : Nat) : Int)) then
        impl_tableText_l1 k (fun (out3 : ByteArray) (x11 : List (List Int)) (x12 : Int) (x13 : Int) =>
          bif decide (ByteArray.size out3 + ByteArray.size (⟨#[10]⟩ : ByteArray) ≤ maxGrow) then
            impl_tableText_l2 k K0 m (out3 ++ (⟨#[10]⟩ : ByteArray)) x11 x12 (IntKind.wrap .i64 (x13 + (1 : Int)))
          else
            none) k out1 x2 x3 x4 (List.getD x2 (Int.toNat x4) []) ((List.length (List.getD x2 (Int.toNat x4) []) : Nat) : Int) (0 : Int)
      else
        none
    else
      K0 out1
def impl_tableText (k : Nat) (t : (List (Int × Int)) × Int × List (List Int)) {R : Type} (K : ByteArray → Option R) : Option R :=
  impl_tableText_l0 k (fun (out0 : ByteArray) (t1 : (List (Int × Int)) × Int × List (List Int)) =>
    impl_wordsText k (⟨#[32, 100, 105, 99, 101]⟩ : ByteArray) [t1.2.1] fun (r1 : ByteArray) =>
    bif decide (ByteArray.size r1 + ByteArray.size (⟨#[10]⟩ : ByteArray) ≤ maxGrow) then
      bif decide (ByteArray.size out0 + ByteArray.size (r1 ++ (⟨#[10]⟩ : ByteArray)) ≤ maxGrow) then
        impl_tableText_l2 k (fun (out4 : ByteArray) =>
          K out4) k (out0 ++ (r1 ++ (⟨#[10]⟩ : ByteArray))) t1.2.2 ((List.length t1.2.2 : Nat) : Int) (0 : Int)
      else
        none
    else
      none) k (⟨#[111, 100, 100, 115]⟩ : ByteArray) t.1 ((List.length t.1 : Nat) : Int) (0 : Int) t
/-- impl.TableText -/
def impl_TableText (k : Nat) (t : (List (Int × Int)) × Int × List (List Int)) {R : Type} (K : ByteArray → Bool → Option R) : Option R :=
  impl_IsCombatTable k t fun (r : Bool) =>
  bif !r then
    K (⟨#[]⟩ : ByteArray) false
  else
    impl_tableText k t fun (r0 : ByteArray) =>
    K r0 true
/-- laws.FnExactTableText -/
def laws_FnExactTableText (k : Nat) (aT : (List (Int × Int)) × Int × List (List Int)) {R : Type} (K : Bool → Option R) : Option R :=
  laws_szCombatTable k aT (1048576 : Int) fun (r : Int) =>
  bif decide (r < (0 : Int)) then
    K true
  else
    laws_toCombatTable k aT fun (r0 : (List (Int × Int)) × Int × List (List Int)) =>
    spec_TableText k r0 fun (r1 : ByteArray) (r2 : Bool) =>
    laws_toCombatTable k aT fun (r3 : (List (Int × Int)) × Int × List (List Int)) =>
    impl_TableText k r3 fun (r4 : ByteArray) (r5 : Bool) =>
    bif !(ByteArray.toList r4 == ByteArray.toList r1) then
      K false
    else
      bif !(r5 == r2) then
        K false
      else
        laws_toCombatTable k aT fun (r6 : (List (Int × Int)) × Int × List (List Int)) =>
        laws_eqCombatTable k r3 r6 fun (r7 : Bool) =>
        bif !r7 then
          K false
        else
          K true
/-- spec.bfKind -/
def spec_bfKind (k : Nat) (k_ : ByteArray × Int × Int × Int × Bool × Int) {R : Type} (K : ByteArray → Option R) : Option R :=
  bif decide (ByteArray.size (⟨#[107, 105, 110, 100, 32]⟩ : ByteArray) + ByteArray.size k_.1 ≤ maxGrow) then
    bif decide (ByteArray.size ((⟨#[107, 105, 110, 100, 32]⟩ : ByteArray) ++ k_.1) + ByteArray.size (⟨#[32, 115, 116, 114, 101, 110, 103, 116, 104, 32]⟩ : ByteArray) ≤ maxGrow) then
      spec_l1Num k k_.2.1 fun (r : ByteArray) =>
      bif decide (ByteArray.size (((⟨#[107, 105, 110, 100, 32]⟩ : ByteArray) ++ k_.1) ++ (⟨#[32, 115, 116, 114, 101, 110, 103, 116, 104, 32]⟩ : ByteArray)) + ByteArray.size r ≤ maxGrow) then
        bif decide (ByteArray.size ((((⟨#[107, 105, 110, 100, 32]⟩ : ByteArray) ++ k_.1) ++ (⟨#[32, 115, 116, 114, 101, 110, 103, 116, 104, 32]⟩ : ByteArray)) ++ r) + ByteArray.size (⟨#[32, 109, 111, 118, 101, 115, 32]⟩ : ByteArray) ≤ maxGrow) then
          spec_l1Num k k_.2.2.1 fun (r0 : ByteArray) =>
          bif decide (ByteArray.size (((((⟨#[107, 105, 110, 100, 32]⟩ : ByteArray) ++ k_.1) ++ (⟨#[32, 115, 116, 114, 101, 110, 103, 116, 104, 32]⟩ : ByteArray)) ++ r) ++ (⟨#[32, 109, 111, 118, 101, 115, 32]⟩ : ByteArray)) + ByteArray.size r0 ≤ maxGrow) then
            bif decide (ByteArray.size ((((((⟨#[107, 105, 110, 100, 32]⟩ : ByteArray) ++ k_.1) ++ (⟨#[32, 115, 116, 114, 101, 110, 103, 116, 104, 32]⟩ : ByteArray)) ++ r) ++ (⟨#[32, 109, 111, 118, 101, 115, 32]⟩ : ByteArray)) ++ r0) + ByteArray.size (⟨#[32, 115, 116, 101, 112, 115, 32]⟩ : ByteArray) ≤ maxGrow) then
              spec_l1Num k k_.2.2.2.1 fun (r1 : ByteArray) =>
              bif decide (ByteArray.size (((((((⟨#[107, 105, 110, 100, 32]⟩ : ByteArray) ++ k_.1) ++ (⟨#[32, 115, 116, 114, 101, 110, 103, 116, 104, 32]⟩ : ByteArray)) ++ r) ++ (⟨#[32, 109, 111, 118, 101, 115, 32]⟩ : ByteArray)) ++ r0) ++ (⟨#[32, 115, 116, 101, 112, 115, 32]⟩ : ByteArray)) + ByteArray.size r1 ≤ maxGrow) then
                bif decide (ByteArray.size ((((((((⟨#[107, 105, 110, 100, 32]⟩ : ByteArray) ++ k_.1) ++ (⟨#[32, 115, 116, 114, 101, 110, 103, 116, 104, 32]⟩ : ByteArray)) ++ r) ++ (⟨#[32, 109, 111, 118, 101, 115, 32]⟩ : ByteArray)) ++ r0) ++ (⟨#[32, 115, 116, 101, 112, 115, 32]⟩ : ByteArray)) ++ r1) + ByteArray.size (⟨#[32, 118, 105, 101, 119, 32]⟩ : ByteArray) ≤ maxGrow) then
                  spec_l1Num k k_.2.2.2.2.2 fun (r2 : ByteArray) =>
                  bif decide (ByteArray.size (((((((((⟨#[107, 105, 110, 100, 32]⟩ : ByteArray) ++ k_.1) ++ (⟨#[32, 115, 116, 114, 101, 110, 103, 116, 104, 32]⟩ : ByteArray)) ++ r) ++ (⟨#[32, 109, 111, 118, 101, 115, 32]⟩ : ByteArray)) ++ r0) ++ (⟨#[32, 115, 116, 101, 112, 115, 32]⟩ : ByteArray)) ++ r1) ++ (⟨#[32, 118, 105, 101, 119, 32]⟩ : ByteArray)) + ByteArray.size r2 ≤ maxGrow) then
                    bif k_.2.2.2.2.1 then
                      bif decide (ByteArray.size ((((((((((⟨#[107, 105, 110, 100, 32]⟩ : ByteArray) ++ k_.1) ++ (⟨#[32, 115, 116, 114, 101, 110, 103, 116, 104, 32]⟩ : ByteArray)) ++ r) ++ (⟨#[32, 109, 111, 118, 101, 115, 32]⟩ : ByteArray)) ++ r0) ++ (⟨#[32, 115, 116, 101, 112, 115, 32]⟩ : ByteArray)) ++ r1) ++ (⟨#[32, 118, 105, 101, 119, 32]⟩ : ByteArray)) ++ r2) + ByteArray.size (⟨#[32, 122, 111, 110, 101]⟩ : ByteArray) ≤ maxGrow) then
                        K (((((((((((⟨#[107, 105, 110, 100, 32]⟩ : ByteArray) ++ k_.1) ++ (⟨#[32, 115, 116, 114, 101, 110, 103, 116, 104, 32]⟩ : ByteArray)) ++ r) ++ (⟨#[32, 109, 111, 118, 101, 115, 32]⟩ : ByteArray)) ++ r0) ++ (⟨#[32, 115, 116, 101, 112, 115, 32]⟩ : ByteArray)) ++ r1) ++ (⟨#[32, 118, 105, 101, 119, 32]⟩ : ByteArray)) ++ r2) ++ (⟨#[32, 122, 111, 110, 101]⟩ : ByteArray))
                      else
                        none
                    else
                      K ((((((((((⟨#[107, 105, 110, 100, 32]⟩ : ByteArray) ++ k_.1) ++ (⟨#[32, 115, 116, 114, 101, 110, 103, 116, 104, 32]⟩ : ByteArray)) ++ r) ++ (⟨#[32, 109, 111, 118, 101, 115, 32]⟩ : ByteArray)) ++ r0) ++ (⟨#[32, 115, 116, 101, 112, 115, 32]⟩ : ByteArray)) ++ r1) ++ (⟨#[32, 118, 105, 101, 119, 32]⟩ : ByteArray)) ++ r2)
                  else
                    none
                else
                  none
              else
                none
            else
              none
          else
            none
        else
          none
      else
        none
    else
      none
  else
    none
/-- spec.KindLine -/
def spec_KindLine (k : Nat) (r : (List (ByteArray × (List Int) × Int × Int × Bool)) × (List (ByteArray × Int × Int × Int × Bool × Int)) × Int × Int × Int × Int × Int) (i : Int) {R : Type} (K : ByteArray → Bool → Option R) : Option R :=
  spec_rGood k r fun (r0 : Bool) =>
  bif !r0 then
    K (⟨#[]⟩ : ByteArray) false
  else
    spec_l1In i (0 : Int) (IntKind.wrap .i64 (((List.length r.2.1 : Nat) : Int) - (1 : Int))) fun (r1 : Bool) =>
    bif !r1 then
      K (⟨#[]⟩ : ByteArray) false
    else
      bif decide ((0 : Int) ≤ i) && decide (i < ((List.length r.2.1 : Nat) : Int)) then
        spec_bfKind k (List.getD r.2.1 (Int.toNat i) ((⟨#[]⟩ : ByteArray), ((0 : Int), ((0 : Int), ((0 : Int), (false, (0 : Int))))))) fun (r2 : ByteArray) =>
        K r2 true
      else
        none
/-- impl.kindLine -/
def impl_kindLine (k : Nat) (k_ : ByteArray × Int × Int × Int × Bool × Int) {R : Type} (K : ByteArray → Option R) : Option R :=
  bif decide (ByteArray.size (⟨#[107, 105, 110, 100, 32]⟩ : ByteArray) + ByteArray.size k_.1 ≤ maxGrow) then
    bif decide (ByteArray.size ((⟨#[107, 105, 110, 100, 32]⟩ : ByteArray) ++ k_.1) + ByteArray.size (⟨#[32]⟩ : ByteArray) ≤ maxGrow) then
      impl_wordsText k (⟨#[115, 116, 114, 101, 110, 103, 116, 104]⟩ : ByteArray) [k_.2.1] fun (r : ByteArray) =>
      bif decide (ByteArray.size (((⟨#[107, 105, 110, 100, 32]⟩ : ByteArray) ++ k_.1) ++ (⟨#[32]⟩ : ByteArray)) + ByteArray.size r ≤ maxGrow) then
        bif decide (ByteArray.size ((((⟨#[107, 105, 110, 100, 32]⟩ : ByteArray) ++ k_.1) ++ (⟨#[32]⟩ : ByteArray)) ++ r) + ByteArray.size (⟨#[32]⟩ : ByteArray) ≤ maxGrow) then
          impl_wordsText k (⟨#[109, 111, 118, 101, 115]⟩ : ByteArray) [k_.2.2.1] fun (r0 : ByteArray) =>
          bif decide (ByteArray.size (((((⟨#[107, 105, 110, 100, 32]⟩ : ByteArray) ++ k_.1) ++ (⟨#[32]⟩ : ByteArray)) ++ r) ++ (⟨#[32]⟩ : ByteArray)) + ByteArray.size r0 ≤ maxGrow) then
            bif decide (ByteArray.size ((((((⟨#[107, 105, 110, 100, 32]⟩ : ByteArray) ++ k_.1) ++ (⟨#[32]⟩ : ByteArray)) ++ r) ++ (⟨#[32]⟩ : ByteArray)) ++ r0) + ByteArray.size (⟨#[32]⟩ : ByteArray) ≤ maxGrow) then
              impl_wordsText k (⟨#[115, 116, 101, 112, 115]⟩ : ByteArray) [k_.2.2.2.1] fun (r1 : ByteArray) =>
              bif decide (ByteArray.size (((((((⟨#[107, 105, 110, 100, 32]⟩ : ByteArray) ++ k_.1) ++ (⟨#[32]⟩ : ByteArray)) ++ r) ++ (⟨#[32]⟩ : ByteArray)) ++ r0) ++ (⟨#[32]⟩ : ByteArray)) + ByteArray.size r1 ≤ maxGrow) then
                bif decide (ByteArray.size ((((((((⟨#[107, 105, 110, 100, 32]⟩ : ByteArray) ++ k_.1) ++ (⟨#[32]⟩ : ByteArray)) ++ r) ++ (⟨#[32]⟩ : ByteArray)) ++ r0) ++ (⟨#[32]⟩ : ByteArray)) ++ r1) + ByteArray.size (⟨#[32]⟩ : ByteArray) ≤ maxGrow) then
                  impl_wordsText k (⟨#[118, 105, 101, 119]⟩ : ByteArray) [k_.2.2.2.2.2] fun (r2 : ByteArray) =>
                  bif decide (ByteArray.size (((((((((⟨#[107, 105, 110, 100, 32]⟩ : ByteArray) ++ k_.1) ++ (⟨#[32]⟩ : ByteArray)) ++ r) ++ (⟨#[32]⟩ : ByteArray)) ++ r0) ++ (⟨#[32]⟩ : ByteArray)) ++ r1) ++ (⟨#[32]⟩ : ByteArray)) + ByteArray.size r2 ≤ maxGrow) then
                    bif k_.2.2.2.2.1 then
                      bif decide (ByteArray.size ((((((((((⟨#[107, 105, 110, 100, 32]⟩ : ByteArray) ++ k_.1) ++ (⟨#[32]⟩ : ByteArray)) ++ r) ++ (⟨#[32]⟩ : ByteArray)) ++ r0) ++ (⟨#[32]⟩ : ByteArray)) ++ r1) ++ (⟨#[32]⟩ : ByteArray)) ++ r2) + ByteArray.size (⟨#[32, 122, 111, 110, 101]⟩ : ByteArray) ≤ maxGrow) then
                        K (((((((((((⟨#[107, 105, 110, 100, 32]⟩ : ByteArray) ++ k_.1) ++ (⟨#[32]⟩ : ByteArray)) ++ r) ++ (⟨#[32]⟩ : ByteArray)) ++ r0) ++ (⟨#[32]⟩ : ByteArray)) ++ r1) ++ (⟨#[32]⟩ : ByteArray)) ++ r2) ++ (⟨#[32, 122, 111, 110, 101]⟩ : ByteArray))
                      else
                        none
                    else
                      K ((((((((((⟨#[107, 105, 110, 100, 32]⟩ : ByteArray) ++ k_.1) ++ (⟨#[32]⟩ : ByteArray)) ++ r) ++ (⟨#[32]⟩ : ByteArray)) ++ r0) ++ (⟨#[32]⟩ : ByteArray)) ++ r1) ++ (⟨#[32]⟩ : ByteArray)) ++ r2)
                  else
                    none
                else
                  none
              else
                none
            else
              none
          else
            none
        else
          none
      else
        none
    else
      none
  else
    none
/-- impl.KindLine -/
def impl_KindLine (k : Nat) (r : (List (ByteArray × (List Int) × Int × Int × Bool)) × (List (ByteArray × Int × Int × Int × Bool × Int)) × Int × Int × Int × Int × Int) (i : Int) {R : Type} (K : ByteArray → Bool → Option R) : Option R :=
  impl_IsRules k r fun (r0 : Bool) =>
  bif !r0 then
    K (⟨#[]⟩ : ByteArray) false
  else
    impl_isIndex i ((List.length r.2.1 : Nat) : Int) fun (r1 : Bool) =>
    bif !r1 then
      K (⟨#[]⟩ : ByteArray) false
    else
      bif decide ((0 : Int) ≤ i) && decide (i < ((List.length r.2.1 : Nat) : Int)) then
        impl_kindLine k (List.getD r.2.1 (Int.toNat i) ((⟨#[]⟩ : ByteArray), ((0 : Int), ((0 : Int), ((0 : Int), (false, (0 : Int))))))) fun (r2 : ByteArray) =>
        K r2 true
      else
        none
/-- laws.FnExactKindLine -/
def laws_FnExactKindLine (k : Nat) (aR : (List (ByteArray × (List Int) × Int × Int × Bool)) × (List (ByteArray × Int × Int × Int × Bool × Int)) × Int × Int × Int × Int × Int) (aI : Int) {R : Type} (K : Bool → Option R) : Option R :=
  laws_szRules k aR (1048576 : Int) fun (r : Int) =>
  bif decide (r < (0 : Int)) then
    K true
  else
    laws_toRules k aR fun (r0 : (List (ByteArray × (List Int) × Int × Int × Bool)) × (List (ByteArray × Int × Int × Int × Bool × Int)) × Int × Int × Int × Int × Int) =>
    spec_KindLine k r0 aI fun (r1 : ByteArray) (r2 : Bool) =>
    laws_toRules k aR fun (r3 : (List (ByteArray × (List Int) × Int × Int × Bool)) × (List (ByteArray × Int × Int × Int × Bool × Int)) × Int × Int × Int × Int × Int) =>
    impl_KindLine k r3 aI fun (r4 : ByteArray) (r5 : Bool) =>
    bif !(ByteArray.toList r4 == ByteArray.toList r1) then
      K false
    else
      bif !(r5 == r2) then
        K false
      else
        laws_toRules k aR fun (r6 : (List (ByteArray × (List Int) × Int × Int × Bool)) × (List (ByteArray × Int × Int × Int × Bool × Int)) × Int × Int × Int × Int × Int) =>
        laws_eqRules k r3 r6 fun (r7 : Bool) =>
        bif !r7 then
          K false
        else
          K true
/-- spec.l1Int -/
def spec_l1Int (k : Nat) (n_0 : Int) {R : Type} (K : ByteArray → Option R) : Option R :=
  bif decide (n_0 < (0 : Int)) then
    spec_l1Num k (IntKind.wrap .i64 (0 - n_0)) fun (r : ByteArray) =>
    bif decide (ByteArray.size (⟨#[45]⟩ : ByteArray) + ByteArray.size r ≤ maxGrow) then
      K ((⟨#[45]⟩ : ByteArray) ++ r)
    else
      none
  else
    spec_l1Num k n_0 fun (r0 : ByteArray) =>
    K r0
/-- spec.bfTerrain -/
def spec_bfTerrain_l0 (k : Nat) {R : Type} (K0 : ByteArray → (ByteArray × (List Int) × Int × Int × Bool) → Option R) : Nat → ByteArray → (List Int) → Int → Int → (ByteArray × (List Int) × Int × Int × Bool) → Option R
  | 0, _, _, _, _, _ => none
  | m + 1, s, x, x0, x1, t0 =>
    bif decide (x1 < x0) then
      bif decide ((0 : Int) ≤ x1) && decide (x1 < ((List.length x : Nat) : Int)) then
        spec_l1Num k (List.getD x (Int.toNat x1) (0 : Int)) fun (r1 : ByteArray) =>
        bif decide (ByteArray.size (⟨#[32]⟩ : ByteArray) + ByteArray.size r1 ≤ maxGrow) then
          bif decide (ByteArray.size s + ByteArray.size ((⟨#[32]⟩ : ByteArray) ++ r1) ≤ maxGrow) then
            spec_bfTerrain_l0 k K0 m (s ++ ((⟨#[32]⟩ : ByteArray) ++ r1)) x x0 (IntKind.wrap .i64 (x1 + (1 : Int))) t0
          else
            none
        else
          none
      else
        none
    else
      K0 s t0
def spec_bfTerrain (k : Nat) (t : ByteArray × (List Int) × Int × Int × Bool) {R : Type} (K : ByteArray → Option R) : Option R :=
  bif decide (ByteArray.size (⟨#[116, 101, 114, 114, 97, 105, 110, 32]⟩ : ByteArray) + ByteArray.size t.1 ≤ maxGrow) then
    bif decide (ByteArray.size ((⟨#[116, 101, 114, 114, 97, 105, 110, 32]⟩ : ByteArray) ++ t.1) + ByteArray.size (⟨#[32, 115, 104, 105, 102, 116, 32]⟩ : ByteArray) ≤ maxGrow) then
      spec_l1Int k t.2.2.1 fun (r : ByteArray) =>
      bif decide (ByteArray.size (((⟨#[116, 101, 114, 114, 97, 105, 110, 32]⟩ : ByteArray) ++ t.1) ++ (⟨#[32, 115, 104, 105, 102, 116, 32]⟩ : ByteArray)) + ByteArray.size r ≤ maxGrow) then
        bif decide (ByteArray.size ((((⟨#[116, 101, 114, 114, 97, 105, 110, 32]⟩ : ByteArray) ++ t.1) ++ (⟨#[32, 115, 104, 105, 102, 116, 32]⟩ : ByteArray)) ++ r) + ByteArray.size (⟨#[32, 104, 101, 105, 103, 104, 116, 32]⟩ : ByteArray) ≤ maxGrow) then
          spec_l1Num k t.2.2.2.1 fun (r0 : ByteArray) =>
          bif decide (ByteArray.size (((((⟨#[116, 101, 114, 114, 97, 105, 110, 32]⟩ : ByteArray) ++ t.1) ++ (⟨#[32, 115, 104, 105, 102, 116, 32]⟩ : ByteArray)) ++ r) ++ (⟨#[32, 104, 101, 105, 103, 104, 116, 32]⟩ : ByteArray)) + ByteArray.size r0 ≤ maxGrow) then
            bif decide (ByteArray.size ((((((⟨#[116, 101, 114, 114, 97, 105, 110, 32]⟩ : ByteArray) ++ t.1) ++ (⟨#[32, 115, 104, 105, 102, 116, 32]⟩ : ByteArray)) ++ r) ++ (⟨#[32, 104, 101, 105, 103, 104, 116, 32]⟩ : ByteArray)) ++ r0) + ByteArray.size (⟨#[32, 99, 111, 115, 116]⟩ : ByteArray) ≤ maxGrow) then
              spec_bfTerrain_l0 k (fun (s0 : ByteArray) (t1 : ByteArray × (List Int) × Int × Int × Bool) =>
                bif t1.2.2.2.2 then
                  bif decide (ByteArray.size s0 + ByteArray.size (⟨#[32, 98, 108, 111, 99, 107, 115]⟩ : ByteArray) ≤ maxGrow) then
                    K (s0 ++ (⟨#[32, 98, 108, 111, 99, 107, 115]⟩ : ByteArray))
                  else
                    none
                else
                  K s0) k (((((((⟨#[116, 101, 114, 114, 97, 105, 110, 32]⟩ : ByteArray) ++ t.1) ++ (⟨#[32, 115, 104, 105, 102, 116, 32]⟩ : ByteArray)) ++ r) ++ (⟨#[32, 104, 101, 105, 103, 104, 116, 32]⟩ : ByteArray)) ++ r0) ++ (⟨#[32, 99, 111, 115, 116]⟩ : ByteArray)) t.2.1 ((List.length t.2.1 : Nat) : Int) (0 : Int) t
            else
              none
          else
            none
        else
          none
      else
        none
    else
      none
  else
    none
/-- spec.TerrainLine -/
def spec_TerrainLine (k : Nat) (r : (List (ByteArray × (List Int) × Int × Int × Bool)) × (List (ByteArray × Int × Int × Int × Bool × Int)) × Int × Int × Int × Int × Int) (i : Int) {R : Type} (K : ByteArray → Bool → Option R) : Option R :=
  spec_rGood k r fun (r0 : Bool) =>
  bif !r0 then
    K (⟨#[]⟩ : ByteArray) false
  else
    spec_l1In i (0 : Int) (IntKind.wrap .i64 (((List.length r.1 : Nat) : Int) - (1 : Int))) fun (r1 : Bool) =>
    bif !r1 then
      K (⟨#[]⟩ : ByteArray) false
    else
      bif decide ((0 : Int) ≤ i) && decide (i < ((List.length r.1 : Nat) : Int)) then
        spec_bfTerrain k (List.getD r.1 (Int.toNat i) ((⟨#[]⟩ : ByteArray), ([], ((0 : Int), ((0 : Int), false))))) fun (r2 : ByteArray) =>
        K r2 true
      else
        none
/-- impl.terrainLine -/
def impl_terrainLine (k : Nat) (t : ByteArray × (List Int) × Int × Int × Bool) {R : Type} (K : ByteArray → Option R) : Option R :=
  bif decide (ByteArray.size (⟨#[116, 101, 114, 114, 97, 105, 110, 32]⟩ : ByteArray) + ByteArray.size t.1 ≤ maxGrow) then
    bif decide (ByteArray.size ((⟨#[116, 101, 114, 114, 97, 105, 110, 32]⟩ : ByteArray) ++ t.1) + ByteArray.size (⟨#[32]⟩ : ByteArray) ≤ maxGrow) then
      impl_wordsText k (⟨#[115, 104, 105, 102, 116]⟩ : ByteArray) [t.2.2.1] fun (r : ByteArray) =>
      bif decide (ByteArray.size (((⟨#[116, 101, 114, 114, 97, 105, 110, 32]⟩ : ByteArray) ++ t.1) ++ (⟨#[32]⟩ : ByteArray)) + ByteArray.size r ≤ maxGrow) then
        bif decide (ByteArray.size ((((⟨#[116, 101, 114, 114, 97, 105, 110, 32]⟩ : ByteArray) ++ t.1) ++ (⟨#[32]⟩ : ByteArray)) ++ r) + ByteArray.size (⟨#[32]⟩ : ByteArray) ≤ maxGrow) then
          impl_wordsText k (⟨#[104, 101, 105, 103, 104, 116]⟩ : ByteArray) [t.2.2.2.1] fun (r0 : ByteArray) =>
          bif decide (ByteArray.size (((((⟨#[116, 101, 114, 114, 97, 105, 110, 32]⟩ : ByteArray) ++ t.1) ++ (⟨#[32]⟩ : ByteArray)) ++ r) ++ (⟨#[32]⟩ : ByteArray)) + ByteArray.size r0 ≤ maxGrow) then
            bif decide (ByteArray.size ((((((⟨#[116, 101, 114, 114, 97, 105, 110, 32]⟩ : ByteArray) ++ t.1) ++ (⟨#[32]⟩ : ByteArray)) ++ r) ++ (⟨#[32]⟩ : ByteArray)) ++ r0) + ByteArray.size (⟨#[32]⟩ : ByteArray) ≤ maxGrow) then
              impl_wordsText k (⟨#[99, 111, 115, 116]⟩ : ByteArray) t.2.1 fun (r1 : ByteArray) =>
              bif decide (ByteArray.size (((((((⟨#[116, 101, 114, 114, 97, 105, 110, 32]⟩ : ByteArray) ++ t.1) ++ (⟨#[32]⟩ : ByteArray)) ++ r) ++ (⟨#[32]⟩ : ByteArray)) ++ r0) ++ (⟨#[32]⟩ : ByteArray)) + ByteArray.size r1 ≤ maxGrow) then
                bif t.2.2.2.2 then
                  bif decide (ByteArray.size ((((((((⟨#[116, 101, 114, 114, 97, 105, 110, 32]⟩ : ByteArray) ++ t.1) ++ (⟨#[32]⟩ : ByteArray)) ++ r) ++ (⟨#[32]⟩ : ByteArray)) ++ r0) ++ (⟨#[32]⟩ : ByteArray)) ++ r1) + ByteArray.size (⟨#[32, 98, 108, 111, 99, 107, 115]⟩ : ByteArray) ≤ maxGrow) then
                    K (((((((((⟨#[116, 101, 114, 114, 97, 105, 110, 32]⟩ : ByteArray) ++ t.1) ++ (⟨#[32]⟩ : ByteArray)) ++ r) ++ (⟨#[32]⟩ : ByteArray)) ++ r0) ++ (⟨#[32]⟩ : ByteArray)) ++ r1) ++ (⟨#[32, 98, 108, 111, 99, 107, 115]⟩ : ByteArray))
                  else
                    none
                else
                  K ((((((((⟨#[116, 101, 114, 114, 97, 105, 110, 32]⟩ : ByteArray) ++ t.1) ++ (⟨#[32]⟩ : ByteArray)) ++ r) ++ (⟨#[32]⟩ : ByteArray)) ++ r0) ++ (⟨#[32]⟩ : ByteArray)) ++ r1)
              else
                none
            else
              none
          else
            none
        else
          none
      else
        none
    else
      none
  else
    none
/-- impl.TerrainLine -/
def impl_TerrainLine (k : Nat) (r : (List (ByteArray × (List Int) × Int × Int × Bool)) × (List (ByteArray × Int × Int × Int × Bool × Int)) × Int × Int × Int × Int × Int) (i : Int) {R : Type} (K : ByteArray → Bool → Option R) : Option R :=
  impl_IsRules k r fun (r0 : Bool) =>
  bif !r0 then
    K (⟨#[]⟩ : ByteArray) false
  else
    impl_isIndex i ((List.length r.1 : Nat) : Int) fun (r1 : Bool) =>
    bif !r1 then
      K (⟨#[]⟩ : ByteArray) false
    else
      bif decide ((0 : Int) ≤ i) && decide (i < ((List.length r.1 : Nat) : Int)) then
        impl_terrainLine k (List.getD r.1 (Int.toNat i) ((⟨#[]⟩ : ByteArray), ([], ((0 : Int), ((0 : Int), false))))) fun (r2 : ByteArray) =>
        K r2 true
      else
        none
/-- laws.FnExactTerrainLine -/
def laws_FnExactTerrainLine (k : Nat) (aR : (List (ByteArray × (List Int) × Int × Int × Bool)) × (List (ByteArray × Int × Int × Int × Bool × Int)) × Int × Int × Int × Int × Int) (aI : Int) {R : Type} (K : Bool → Option R) : Option R :=
  laws_szRules k aR (1048576 : Int) fun (r : Int) =>
  bif decide (r < (0 : Int)) then
    K true
  else
    laws_toRules k aR fun (r0 : (List (ByteArray × (List Int) × Int × Int × Bool)) × (List (ByteArray × Int × Int × Int × Bool × Int)) × Int × Int × Int × Int × Int) =>
    spec_TerrainLine k r0 aI fun (r1 : ByteArray) (r2 : Bool) =>
    laws_toRules k aR fun (r3 : (List (ByteArray × (List Int) × Int × Int × Bool)) × (List (ByteArray × Int × Int × Int × Bool × Int)) × Int × Int × Int × Int × Int) =>
    impl_TerrainLine k r3 aI fun (r4 : ByteArray) (r5 : Bool) =>
    bif !(ByteArray.toList r4 == ByteArray.toList r1) then
      K false
    else
      bif !(r5 == r2) then
        K false
      else
        laws_toRules k aR fun (r6 : (List (ByteArray × (List Int) × Int × Int × Bool)) × (List (ByteArray × Int × Int × Int × Bool × Int)) × Int × Int × Int × Int × Int) =>
        laws_eqRules k r3 r6 fun (r7 : Bool) =>
        bif !r7 then
          K false
        else
          K true
/-- spec.bfLimits -/
def spec_bfLimits  {R : Type} (K : (List ByteArray) → Option R) : Option R :=
  K [(⟨#[115, 116, 97, 99, 107]⟩ : ByteArray), (⟨#[114, 105, 118, 101, 114]⟩ : ByteArray), (⟨#[114, 111, 97, 100]⟩ : ByteArray), (⟨#[115, 117, 112, 112, 108, 121]⟩ : ByteArray), (⟨#[116, 117, 114, 110, 115]⟩ : ByteArray)]
/-- spec.bfValues -/
def spec_bfValues (r : (List (ByteArray × (List Int) × Int × Int × Bool)) × (List (ByteArray × Int × Int × Int × Bool × Int)) × Int × Int × Int × Int × Int) {R : Type} (K : (List Int) → Option R) : Option R :=
  K [r.2.2.1, r.2.2.2.1, r.2.2.2.2.1, r.2.2.2.2.2.1, r.2.2.2.2.2.2]
/-- spec.bfText -/
def spec_bfText_l0 (k : Nat) {R : Type} (K0 : ByteArray → ((List (ByteArray × (List Int) × Int × Int × Bool)) × (List (ByteArray × Int × Int × Int × Bool × Int)) × Int × Int × Int × Int × Int) → Option R) : Nat → ByteArray → (List ByteArray) → Int → Int → ((List (ByteArray × (List Int) × Int × Int × Bool)) × (List (ByteArray × Int × Int × Int × Bool × Int)) × Int × Int × Int × Int × Int) → Option R
  | 0, _, _, _, _, _ => none
  | m + 1, s, x, x0, x1, r1 =>
    bif decide (x1 < x0) then
      bif decide ((0 : Int) ≤ x1) && decide (x1 < ((List.length x : Nat) : Int)) then
        bif decide (ByteArray.size (List.getD x (Int.toNat x1) (⟨#[]⟩ : ByteArray)) + ByteArray.size (⟨#[32]⟩ : ByteArray) ≤ maxGrow) then
          spec_bfValues r1 fun (r2 : List Int) =>
          bif decide ((0 : Int) ≤ x1) && decide (x1 < ((List.length r2 : Nat) : Int)) then
            spec_l1Num k (List.getD r2 (Int.toNat x1) (0 : Int)) fun (r3 : ByteArray) =>
            bif decide (ByteArray.size ((List.getD x (Int.toNat x1) (⟨#[]⟩ : ByteArray)) ++ (⟨#[32]⟩ : ByteArray)) + ByteArray.size r3 ≤ maxGrow) then
              bif decide (ByteArray.size (((List.getD x (Int.toNat x1) (⟨#[]⟩ : ByteArray)) ++ (⟨#[32]⟩ : ByteArray)) ++ r3) + ByteArray.size (⟨#[10]⟩ : ByteArray) ≤ maxGrow) then
                bif decide (ByteArray.size s + ByteArray.size ((((List.getD x (Int.toNat x1) (⟨#[]⟩ : ByteArray)) ++ (⟨#[32]⟩ : ByteArray)) ++ r3) ++ (⟨#[10]⟩ : ByteArray)) ≤ maxGrow) then
                  spec_bfText_l0 k K0 m (s ++ ((((List.getD x (Int.toNat x1) (⟨#[]⟩ : ByteArray)) ++ (⟨#[32]⟩ : ByteArray)) ++ r3) ++ (⟨#[10]⟩ : ByteArray))) x x0 (IntKind.wrap .i64 (x1 + (1 : Int))) r1
                else
                  none
              else
                none
            else
              none
          else
            none
        else
          none
      else
        none
    else
      K0 s r1
def spec_bfText_l1 (k : Nat) {R : Type} (K0 : ByteArray → ((List (ByteArray × (List Int) × Int × Int × Bool)) × (List (ByteArray × Int × Int × Int × Bool × Int)) × Int × Int × Int × Int × Int) → Option R) : Nat → ByteArray → (List (ByteArray × Int × Int × Int × Bool × Int)) → Int → Int → ((List (ByteArray × (List Int) × Int × Int × Bool)) × (List (ByteArray × Int × Int × Int × Bool × Int)) × Int × Int × Int × Int × Int) → Option R
  | 0, _, _, _, _, _ => none
  | m + 1, s1, x2, x3, x4, r5 =>
    bif decide (x4 < x3) then
      bif decide ((0 : Int) ≤ x4) && decide (x4 < ((List.length x2 : Nat) : Int)) then
        spec_bfKind k (List.getD x2 (Int.toNat x4) ((⟨#[]⟩ : ByteArray), ((0 : Int), ((0 : Int), ((0 : Int), (false, (0 : Int))))))) fun (r6 : ByteArray) =>
        bif decide (ByteArray.size r6 + ByteArray.size (⟨#[10]⟩ : ByteArray) ≤ maxGrow) then
          bif decide (ByteArray.size s1 + ByteArray.size (r6 ++ (⟨#[10]⟩ : ByteArray)) ≤ maxGrow) then
            spec_bfText_l1 k K0 m (s1 ++ (r6 ++ (⟨#[10]⟩ : ByteArray))) x2 x3 (IntKind.wrap .i64 (x4 + (1 : Int))) r5
          else
            none
        else
          none
      else
        none
    else
      K0 s1 r5
def spec_bfText_l2 (k : Nat) {R : Type} (K0 : ByteArray → Option R) : Nat → ByteArray → (List (ByteArray × (List Int) × Int × Int × Bool)) → Int → Int → Option R
  | 0, _, _, _, _ => none
  | m + 1, s3, x5, x6, x7 =>
    bif decide (x7 < x6) then
      bif decide ((0 : Int) ≤ x7) && decide (x7 < ((List.length x5 : Nat) : Int)) then
        spec_bfTerrain k (List.getD x5 (Int.toNat x7) ((⟨#[]⟩ : ByteArray), ([], ((0 : Int), ((0 : Int), false))))) fun (r8 : ByteArray) =>
        bif decide (ByteArray.size r8 + ByteArray.size (⟨#[10]⟩ : ByteArray) ≤ maxGrow) then
          bif decide (ByteArray.size s3 + ByteArray.size (r8 ++ (⟨#[10]⟩ : ByteArray)) ≤ maxGrow) then
            spec_bfText_l2 k K0 m (s3 ++ (r8 ++ (⟨#[10]⟩ : ByteArray))) x5 x6 (IntKind.wrap .i64 (x7 + (1 : Int)))
          else
            none
        else
          none
      else
        none
    else
      K0 s3
def spec_bfText (k : Nat) (r : (List (ByteArray × (List Int) × Int × Int × Bool)) × (List (ByteArray × Int × Int × Int × Bool × Int)) × Int × Int × Int × Int × Int) {R : Type} (K : ByteArray → Option R) : Option R :=
  spec_bfLimits fun (r0 : List ByteArray) =>
  spec_bfText_l0 k (fun (s0 : ByteArray) (r4 : (List (ByteArray × (List Int) × Int × Int × Bool)) × (List (ByteArray × Int × Int × Int × Bool × Int)) × Int × Int × Int × Int × Int) =>
    spec_bfText_l1 k (fun (s2 : ByteArray) (r7 : (List (ByteArray × (List Int) × Int × Int × Bool)) × (List (ByteArray × Int × Int × Int × Bool × Int)) × Int × Int × Int × Int × Int) =>
      spec_bfText_l2 k (fun (s4 : ByteArray) =>
        K s4) k s2 r7.1 ((List.length r7.1 : Nat) : Int) (0 : Int)) k s0 r4.2.1 ((List.length r4.2.1 : Nat) : Int) (0 : Int) r4) k (⟨#[]⟩ : ByteArray) r0 ((List.length r0 : Nat) : Int) (0 : Int) r
/-- spec.RulesText -/
def spec_RulesText (k : Nat) (r : (List (ByteArray × (List Int) × Int × Int × Bool)) × (List (ByteArray × Int × Int × Int × Bool × Int)) × Int × Int × Int × Int × Int) {R : Type} (K : ByteArray → Bool → Option R) : Option R :=
  spec_rGood k r fun (r0 : Bool) =>
  bif !r0 then
    K (⟨#[]⟩ : ByteArray) false
  else
    spec_bfText k r fun (r1 : ByteArray) =>
    K r1 true
/-- impl.rulesText -/
def impl_rulesText_l0 (k : Nat) {R : Type} (K0 : ((List (ByteArray × (List Int) × Int × Int × Bool)) × (List (ByteArray × Int × Int × Int × Bool × Int)) × Int × Int × Int × Int × Int) → (List ByteArray) → Option R) : Nat → (List Int) → Int → ((List (ByteArray × (List Int) × Int × Int × Bool)) × (List (ByteArray × Int × Int × Int × Bool × Int)) × Int × Int × Int × Int × Int) → (List ByteArray) → Option R
  | 0, _, _, _, _ => none
  | m + 1, x0, x1, x2, x3 =>
    bif decide (x1 < (5 : Int)) then
      bif decide ((0 : Int) ≤ x1) && decide (x1 < (5 : Int)) then
        bif decide ((0 : Int) ≤ x1) && decide (x1 < (5 : Int)) then
          impl_wordsText k (List.getD impl_limitNames (Int.toNat x1) (⟨#[]⟩ : ByteArray)) [List.getD x0 (Int.toNat x1) (0 : Int)] fun (r : ByteArray) =>
          bif decide (List.length x3 + List.length [r] ≤ maxGrow) then
            impl_rulesText_l0 k K0 m x0 (IntKind.wrap .i64 (x1 + (1 : Int))) x2 (x3 ++ [r])
          else
            none
        else
          none
      else
        none
    else
      K0 x2 x3
def impl_rulesText_l1 (k : Nat) {R : Type} (K0 : ((List (ByteArray × (List Int) × Int × Int × Bool)) × (List (ByteArray × Int × Int × Int × Bool × Int)) × Int × Int × Int × Int × Int) → (List ByteArray) → Option R) : Nat → (List (ByteArray × Int × Int × Int × Bool × Int)) → Int → Int → ((List (ByteArray × (List Int) × Int × Int × Bool)) × (List (ByteArray × Int × Int × Int × Bool × Int)) × Int × Int × Int × Int × Int) → (List ByteArray) → Option R
  | 0, _, _, _, _, _ => none
  | m + 1, x6, x7, x8, x9, x10 =>
    bif decide (x8 < x7) then
      bif decide ((0 : Int) ≤ x8) && decide (x8 < ((List.length x6 : Nat) : Int)) then
        impl_kindLine k (List.getD x6 (Int.toNat x8) ((⟨#[]⟩ : ByteArray), ((0 : Int), ((0 : Int), ((0 : Int), (false, (0 : Int))))))) fun (r0 : ByteArray) =>
        bif decide (List.length x10 + List.length [r0] ≤ maxGrow) then
          impl_rulesText_l1 k K0 m x6 x7 (IntKind.wrap .i64 (x8 + (1 : Int))) x9 (x10 ++ [r0])
        else
          none
      else
        none
    else
      K0 x9 x10
def impl_rulesText_l2 (k : Nat) {R : Type} (K0 : (List ByteArray) → Option R) : Nat → (List (ByteArray × (List Int) × Int × Int × Bool)) → Int → Int → (List ByteArray) → Option R
  | 0, _, _, _, _ => none
  | m + 1, x13, x14, x15, x16 =>
    bif decide (x15 < x14) then
      bif decide ((0 : Int) ≤ x15) && decide (x15 < ((List.length x13 : Nat) : Int)) then
        impl_terrainLine k (List.getD x13 (Int.toNat x15) ((⟨#[]⟩ : ByteArray), ([], ((0 : Int), ((0 : Int), false))))) fun (r1 : ByteArray) =>
        bif decide (List.length x16 + List.length [r1] ≤ maxGrow) then
          impl_rulesText_l2 k K0 m x13 x14 (IntKind.wrap .i64 (x15 + (1 : Int))) (x16 ++ [r1])
        else
          none
      else
        none
    else
      K0 x16
def impl_rulesText (k : Nat) (x : (List (ByteArray × (List Int) × Int × Int × Bool)) × (List (ByteArray × Int × Int × Int × Bool × Int)) × Int × Int × Int × Int × Int) {R : Type} (K : ByteArray → Option R) : Option R :=
  impl_rulesText_l0 k (fun (x4 : (List (ByteArray × (List Int) × Int × Int × Bool)) × (List (ByteArray × Int × Int × Int × Bool × Int)) × Int × Int × Int × Int × Int) (x5 : List ByteArray) =>
    impl_rulesText_l1 k (fun (x11 : (List (ByteArray × (List Int) × Int × Int × Bool)) × (List (ByteArray × Int × Int × Int × Bool × Int)) × Int × Int × Int × Int × Int) (x12 : List ByteArray) =>
      impl_rulesText_l2 k (fun (x17 : List ByteArray) =>
        strings_Join x17 (⟨#[10]⟩ : ByteArray) fun (r2 : ByteArray) =>
        bif decide (ByteArray.size r2 + ByteArray.size (⟨#[10]⟩ : ByteArray) ≤ maxGrow) then
          K (r2 ++ (⟨#[10]⟩ : ByteArray))
        else
          none) k x11.1 ((List.length x11.1 : Nat) : Int) (0 : Int) x12) k x4.2.1 ((List.length x4.2.1 : Nat) : Int) (0 : Int) x4 x5) k [x.2.2.1, x.2.2.2.1, x.2.2.2.2.1, x.2.2.2.2.2.1, x.2.2.2.2.2.2] (0 : Int) x []
/-- impl.RulesText -/
def impl_RulesText (k : Nat) (r : (List (ByteArray × (List Int) × Int × Int × Bool)) × (List (ByteArray × Int × Int × Int × Bool × Int)) × Int × Int × Int × Int × Int) {R : Type} (K : ByteArray → Bool → Option R) : Option R :=
  impl_IsRules k r fun (r0 : Bool) =>
  bif !r0 then
    K (⟨#[]⟩ : ByteArray) false
  else
    impl_rulesText k r fun (r1 : ByteArray) =>
    K r1 true
/-- laws.FnExactRulesText -/
def laws_FnExactRulesText (k : Nat) (aR : (List (ByteArray × (List Int) × Int × Int × Bool)) × (List (ByteArray × Int × Int × Int × Bool × Int)) × Int × Int × Int × Int × Int) {R : Type} (K : Bool → Option R) : Option R :=
  laws_szRules k aR (1048576 : Int) fun (r : Int) =>
  bif decide (r < (0 : Int)) then
    K true
  else
    laws_toRules k aR fun (r0 : (List (ByteArray × (List Int) × Int × Int × Bool)) × (List (ByteArray × Int × Int × Int × Bool × Int)) × Int × Int × Int × Int × Int) =>
    spec_RulesText k r0 fun (r1 : ByteArray) (r2 : Bool) =>
    laws_toRules k aR fun (r3 : (List (ByteArray × (List Int) × Int × Int × Bool)) × (List (ByteArray × Int × Int × Int × Bool × Int)) × Int × Int × Int × Int × Int) =>
    impl_RulesText k r3 fun (r4 : ByteArray) (r5 : Bool) =>
    bif !(ByteArray.toList r4 == ByteArray.toList r1) then
      K false
    else
      bif !(r5 == r2) then
        K false
      else
        laws_toRules k aR fun (r6 : (List (ByteArray × (List Int) × Int × Int × Bool)) × (List (ByteArray × Int × Int × Int × Bool × Int)) × Int × Int × Int × Int × Int) =>
        laws_eqRules k r3 r6 fun (r7 : Bool) =>
        bif !r7 then
          K false
        else
          K true
/-- spec.bfBoard -/
def spec_bfBoard (k : Nat) (b : ((List (ByteArray × (List Int) × Int × Int × Bool)) × (List (ByteArray × Int × Int × Int × Bool × Int)) × Int × Int × Int × Int × Int) × Int × Int × (List Int) × (List Int) × List Int) {R : Type} (K : ByteArray → Option R) : Option R :=
  spec_bfText k b.1 fun (r : ByteArray) =>
  spec_mText k b.2 fun (r0 : ByteArray) =>
  bif decide (ByteArray.size r + ByteArray.size r0 ≤ maxGrow) then
    K (r ++ r0)
  else
    none
/-- spec.BoardText -/
def spec_BoardText (k : Nat) (b : ((List (ByteArray × (List Int) × Int × Int × Bool)) × (List (ByteArray × Int × Int × Int × Bool × Int)) × Int × Int × Int × Int × Int) × Int × Int × (List Int) × (List Int) × List Int) {R : Type} (K : ByteArray → Bool → Option R) : Option R :=
  spec_bGood k b fun (r : Bool) =>
  bif !r then
    K (⟨#[]⟩ : ByteArray) false
  else
    spec_bfBoard k b fun (r0 : ByteArray) =>
    K r0 true
/-- impl.boardText -/
def impl_boardText (k : Nat) (b : ((List (ByteArray × (List Int) × Int × Int × Bool)) × (List (ByteArray × Int × Int × Int × Bool × Int)) × Int × Int × Int × Int × Int) × Int × Int × (List Int) × (List Int) × List Int) {R : Type} (K : ByteArray → Option R) : Option R :=
  impl_rulesText k b.1 fun (r : ByteArray) =>
  impl_mapText k b.2 fun (r0 : ByteArray) =>
  bif decide (ByteArray.size r + ByteArray.size r0 ≤ maxGrow) then
    K (r ++ r0)
  else
    none
/-- impl.BoardText -/
def impl_BoardText (k : Nat) (b : ((List (ByteArray × (List Int) × Int × Int × Bool)) × (List (ByteArray × Int × Int × Int × Bool × Int)) × Int × Int × Int × Int × Int) × Int × Int × (List Int) × (List Int) × List Int) {R : Type} (K : ByteArray → Bool → Option R) : Option R :=
  impl_IsBoard k b fun (r : Bool) =>
  bif !r then
    K (⟨#[]⟩ : ByteArray) false
  else
    impl_boardText k b fun (r0 : ByteArray) =>
    K r0 true
/-- laws.FnExactBoardText -/
def laws_FnExactBoardText (k : Nat) (aB : ((List (ByteArray × (List Int) × Int × Int × Bool)) × (List (ByteArray × Int × Int × Int × Bool × Int)) × Int × Int × Int × Int × Int) × Int × Int × (List Int) × (List Int) × List Int) {R : Type} (K : Bool → Option R) : Option R :=
  laws_szBoard k aB (1048576 : Int) fun (r : Int) =>
  bif decide (r < (0 : Int)) then
    K true
  else
    laws_toBoard k aB fun (r0 : ((List (ByteArray × (List Int) × Int × Int × Bool)) × (List (ByteArray × Int × Int × Int × Bool × Int)) × Int × Int × Int × Int × Int) × Int × Int × (List Int) × (List Int) × List Int) =>
    spec_BoardText k r0 fun (r1 : ByteArray) (r2 : Bool) =>
    laws_toBoard k aB fun (r3 : ((List (ByteArray × (List Int) × Int × Int × Bool)) × (List (ByteArray × Int × Int × Int × Bool × Int)) × Int × Int × Int × Int × Int) × Int × Int × (List Int) × (List Int) × List Int) =>
    impl_BoardText k r3 fun (r4 : ByteArray) (r5 : Bool) =>
    bif !(ByteArray.toList r4 == ByteArray.toList r1) then
      K false
    else
      bif !(r5 == r2) then
        K false
      else
        laws_toBoard k aB fun (r6 : ((List (ByteArray × (List Int) × Int × Int × Bool)) × (List (ByteArray × Int × Int × Int × Bool × Int)) × Int × Int × Int × Int × Int) × Int × Int × (List Int) × (List Int) × List Int) =>
        laws_eqBoard k r3 r6 fun (r7 : Bool) =>
        bif !r7 then
          K false
        else
          K true
end Go.Lg
set_option linter.unusedVariables false
namespace Go.Lg
open Go Go.Ev
/-- spec.hDisk -/
def spec_hDisk_l0 (k : Nat) {R : Type} (K0 : Int → Int → (Int × Int) → (List (Int × Int)) → Option R) : Nat → Int → Int → Int → (Int × Int) → (List (Int × Int)) → Option R
  | 0, _, _, _, _, _ => none
  | m + 1, radius1, q0, r, h1, out0 =>
    bif decide (r ≤ IntKind.wrap .i64 (h1.2 + radius1)) then
      spec_hDistance h1 (q0, r) fun (r0 : Int) =>
      bif decide (r0 ≤ radius1) then
        bif decide (List.length out0 + List.length [(q0, r)] ≤ maxGrow) then
          spec_hDisk_l0 k K0 m radius1 q0 (IntKind.wrap .i64 (r + (1 : Int))) h1 (out0 ++ [(q0, r)])
        else
          none
      else
        spec_hDisk_l0 k K0 m radius1 q0 (IntKind.wrap .i64 (r + (1 : Int))) h1 out0
    else
      K0 radius1 q0 h1 out0
def spec_hDisk_l1 (k : Nat) {R : Type} (K0 : (List (Int × Int)) → Option R) : Nat → Int → Int → (Int × Int) → (List (Int × Int)) → Option R
  | 0, _, _, _, _ => none
  | m + 1, radius0, q, h0, out =>
    bif decide (q ≤ IntKind.wrap .i64 (h0.1 + radius0)) then
      spec_hDisk_l0 k (fun (radius2 : Int) (q1 : Int) (h2 : Int × Int) (out1 : List (Int × Int)) =>
        spec_hDisk_l1 k K0 m radius2 (IntKind.wrap .i64 (q1 + (1 : Int))) h2 out1) k radius0 q (IntKind.wrap .i64 (h0.2 - radius0)) h0 out
    else
      K0 out
def spec_hDisk (k : Nat) (h : Int × Int) (radius : Int) {R : Type} (K : (List (Int × Int)) → Option R) : Option R :=
  spec_hDisk_l1 k (fun (out2 : List (Int × Int)) =>
    K out2) k radius (IntKind.wrap .i64 (h.1 - radius)) h []
/-- spec.hAll -/
def spec_hAll_l0 (k : Nat) {R : Type} (K0 : (List (Int × Int)) → Option R) (K1 : Bool → Option R) : Nat → (List (Int × Int)) → (List (Int × Int)) → Int → Int → Option R
  | 0, _, _, _, _ => none
  | m + 1, l0, x, x0, x1 =>
    bif decide (x1 < x0) then
      bif decide ((0 : Int) ≤ x1) && decide (x1 < ((List.length x : Nat) : Int)) then
        spec_hGood (List.getD x (Int.toNat x1) ((0 : Int), (0 : Int))) fun (r : Bool) =>
        bif !r then
          K1 false
        else
          spec_hAll_l0 k K0 K1 m l0 x x0 (IntKind.wrap .i64 (x1 + (1 : Int)))
      else
        none
    else
      K0 l0
def spec_hAll (k : Nat) (l : List (Int × Int)) {R : Type} (K : (List (Int × Int)) → Bool → Option R) : Option R :=
  spec_hAll_l0 k (fun (l1 : List (Int × Int)) =>
    K l1 true) (fun (x2 : Bool) =>
    K [] x2) k l l ((List.length l : Nat) : Int) (0 : Int)
/-- spec.DiskOf -/
def spec_DiskOf (k : Nat) (h : Int × Int) (radius : Int) {R : Type} (K : (List (Int × Int)) → Bool → Option R) : Option R :=
  spec_hGood h fun (r : Bool) =>
  bif !r then
    K [] false
  else
    spec_l1In radius (0 : Int) (6 : Int) fun (r0 : Bool) =>
    bif !r0 then
      K [] false
    else
      spec_hDisk k h radius fun (r1 : List (Int × Int)) =>
      spec_hAll k r1 fun (r2 : List (Int × Int)) (r3 : Bool) =>
      K r2 r3
/-- impl.DiskOf -/
def impl_DiskOf_l0 (k : Nat) {R : Type} (K0 : Int → Int → (Int × Int) → (List (Int × Int)) → Option R) : Nat → Int → Int → Int → (Int × Int) → (List (Int × Int)) → Option R
  | 0, _, _, _, _, _ => none
  | m + 1, radius1, q0, r1, h1, out0 =>
    bif decide (r1 ≤ IntKind.wrap .i64 (h1.2 + radius1)) then
      impl_distance h1 (q0, r1) fun (r2 : Int) =>
      bif decide (r2 ≤ radius1) then
        bif decide (List.length out0 + List.length [(q0, r1)] ≤ maxGrow) then
          impl_DiskOf_l0 k K0 m radius1 q0 (IntKind.wrap .i64 (r1 + (1 : Int))) h1 (out0 ++ [(q0, r1)])
        else
          none
      else
        impl_DiskOf_l0 k K0 m radius1 q0 (IntKind.wrap .i64 (r1 + (1 : Int))) h1 out0
    else
      K0 radius1 q0 h1 out0
def impl_DiskOf_l1 (k : Nat) {R : Type} (K0 : (List (Int × Int)) → Option R) : Nat → Int → Int → (Int × Int) → (List (Int × Int)) → Option R
  | 0, _, _, _, _ => none
  | m + 1, radius0, q, h0, out =>
    bif decide (q ≤ IntKind.wrap .i64 (h0.1 + radius0)) then
      impl_DiskOf_l0 k (fun (radius2 : Int) (q1 : Int) (h2 : Int × Int) (out1 : List (Int × Int)) =>
        impl_DiskOf_l1 k K0 m radius2 (IntKind.wrap .i64 (q1 + (1 : Int))) h2 out1) k radius0 q (IntKind.wrap .i64 (h0.2 - radius0)) h0 out
    else
      K0 out
def impl_DiskOf (k : Nat) (h : Int × Int) (radius : Int) {R : Type} (K : (List (Int × Int)) → Bool → Option R) : Option R :=
  impl_IsHex h fun (r : Bool) =>
  bif !r then
    K [] false
  else
    impl_inRange radius (0 : Int) (6 : Int) fun (r0 : Bool) =>
    bif !r0 then
      K [] false
    else
      impl_DiskOf_l1 k (fun (out2 : List (Int × Int)) =>
        impl_allHexes k out2 fun (r3 : Bool) =>
        bif !r3 then
          K [] false
        else
          K out2 true) k radius (IntKind.wrap .i64 (h.1 - radius)) h []
/-- laws.markHexS -/
def laws_markHexS_in_l0 (k : Nat) {R : Type} (K0 : Int → (List (Int × Int)) → Option R) : Nat → Int → Int → (List (Int × Int)) → Option R
  | 0, _, _, _ => none
  | m + 1, k_0, i, a0 =>
    bif decide (i < ((List.length a0 : Nat) : Int)) then
      bif decide ((0 : Int) ≤ i) && decide (i < ((List.length a0 : Nat) : Int)) then
        bif decide ((0 : Int) ≤ i) && decide (i < ((List.length (List.set a0 (Int.toNat i) (k_0, (List.getD a0 (Int.toNat i) ((0 : Int), (0 : Int))).2)) : Nat) : Int)) then
          laws_markHexS_in_l0 k K0 m (IntKind.wrap .i64 ((IntKind.wrap .i64 (k_0 + (1 : Int))) + (1 : Int))) (IntKind.wrap .i64 (i + (1 : Int))) (List.set (List.set a0 (Int.toNat i) (k_0, (List.getD a0 (Int.toNat i) ((0 : Int), (0 : Int))).2)) (Int.toNat i) ((List.getD (List.set a0 (Int.toNat i) (k_0, (List.getD a0 (Int.toNat i) ((0 : Int), (0 : Int))).2)) (Int.toNat i) ((0 : Int), (0 : Int))).1, IntKind.wrap .i64 (k_0 + (1 : Int))))
        else
          none
      else
        none
    else
      K0 k_0 a0
def laws_markHexS_in (k : Nat) (a : List (Int × Int)) (k_ : Int) {R : Type} (K : (List (Int × Int)) → Int → Option R) : Option R :=
  laws_markHexS_in_l0 k (fun (k_1 : Int) (b : List (Int × Int)) =>
    K b k_1) k k_ (0 : Int) a
/-- laws.heldHexS -/
def laws_heldHexS_l0 (k : Nat) {R : Type} (K0 : Int → Option R) (K1 : Int → Option R) : Nat → (List (Int × Int)) → Int → Int → Option R
  | 0, _, _, _ => none
  | m + 1, a0, k_0, i =>
    bif decide (i < ((List.length a0 : Nat) : Int)) then
      bif decide ((0 : Int) ≤ i) && decide (i < ((List.length a0 : Nat) : Int)) then
        bif !(decide ((List.getD a0 (Int.toNat i) ((0 : Int), (0 : Int))).1 = k_0)) then
          K1 (-1 : Int)
        else
          bif decide ((0 : Int) ≤ i) && decide (i < ((List.length a0 : Nat) : Int)) then
            bif !(decide ((List.getD a0 (Int.toNat i) ((0 : Int), (0 : Int))).2 = IntKind.wrap .i64 (k_0 + (1 : Int)))) then
              K1 (-1 : Int)
            else
              laws_heldHexS_l0 k K0 K1 m a0 (IntKind.wrap .i64 ((IntKind.wrap .i64 (k_0 + (1 : Int))) + (1 : Int))) (IntKind.wrap .i64 (i + (1 : Int)))
          else
            none
      else
        none
    else
      K0 k_0
def laws_heldHexS (k : Nat) (a : List (Int × Int)) (k_ : Int) {R : Type} (K : Int → Option R) : Option R :=
  laws_heldHexS_l0 k (fun (k_1 : Int) =>
    K k_1) (fun (x : Int) =>
    K x) k a k_ (0 : Int)
/-- laws.FnExactDiskOf -/
def laws_FnExactDiskOf (k : Nat) (x : Int × Int) (x0 : Int) {R : Type} (K : Bool → Option R) : Option R :=
  laws_toHex x fun (r : Int × Int) =>
  spec_DiskOf k r x0 fun (r0 : List (Int × Int)) (r1 : Bool) =>
  laws_toHex x fun (r2 : Int × Int) =>
  impl_DiskOf k r2 x0 fun (r3 : List (Int × Int)) (r4 : Bool) =>
  laws_eqHexS k r3 r0 fun (r5 : Bool) =>
  bif !r5 then
    K false
  else
    bif !(r4 == r1) then
      K false
    else
      laws_markHexS_in k r3 (1 : Int) fun (t : List (Int × Int)) (r6 : Int) =>
      laws_heldHexS k t (1 : Int) fun (r7 : Int) =>
      bif decide (r7 < (0 : Int)) then
        K false
      else
        bif !(decide (r7 = r6)) then
          K false
        else
          laws_toHex x fun (r8 : Int × Int) =>
          impl_DiskOf k r8 x0 fun (r9 : List (Int × Int)) (r10 : Bool) =>
          laws_eqHexS k r9 r0 fun (r11 : Bool) =>
          bif !r11 then
            K false
          else
            bif !(r10 == r1) then
              K false
            else
              laws_heldHexS k t (1 : Int) fun (r12 : Int) =>
              bif decide (r12 < (0 : Int)) then
                K false
              else
                bif !(decide (r12 = r6)) then
                  K false
                else
                  K true
/-- spec.hRing -/
def spec_hRing_l0 (k : Nat) {R : Type} (K0 : Int → (Int × Int) → Option R) : Nat → Int → Int → (Int × Int) → Option R
  | 0, _, _, _ => none
  | m + 1, radius0, k_, h0 =>
    bif decide (k_ < radius0) then
      spec_hStep h0 (4 : Int) fun (r : Int × Int) =>
      spec_hRing_l0 k K0 m radius0 (IntKind.wrap .i64 (k_ + (1 : Int))) r
    else
      K0 radius0 h0
def spec_hRing_l1 (k : Nat) {R : Type} (K0 : Int → Int → (Int × Int) → (List (Int × Int)) → Option R) : Nat → Int → Int → Int → (Int × Int) → (List (Int × Int)) → Option R
  | 0, _, _, _, _, _ => none
  | m + 1, radius3, d0, k_0, h3, out0 =>
    bif decide (k_0 < radius3) then
      bif decide (List.length out0 + List.length [h3] ≤ maxGrow) then
        spec_hStep h3 d0 fun (r0 : Int × Int) =>
        spec_hRing_l1 k K0 m radius3 d0 (IntKind.wrap .i64 (k_0 + (1 : Int))) r0 (out0 ++ [h3])
      else
        none
    else
      K0 radius3 d0 h3 out0
def spec_hRing_l2 (k : Nat) {R : Type} (K0 : (List (Int × Int)) → Option R) : Nat → Int → Int → (Int × Int) → (List (Int × Int)) → Option R
  | 0, _, _, _, _ => none
  | m + 1, radius2, d, h2, out =>
    bif decide (d < (6 : Int)) then
      spec_hRing_l1 k (fun (radius4 : Int) (d1 : Int) (h4 : Int × Int) (out1 : List (Int × Int)) =>
        spec_hRing_l2 k K0 m radius4 (IntKind.wrap .i64 (d1 + (1 : Int))) h4 out1) k radius2 d (0 : Int) h2 out
    else
      K0 out
def spec_hRing (k : Nat) (h : Int × Int) (radius : Int) {R : Type} (K : (List (Int × Int)) → Option R) : Option R :=
  bif decide (radius = (0 : Int)) then
    K [h]
  else
    spec_hRing_l0 k (fun (radius1 : Int) (h1 : Int × Int) =>
      spec_hRing_l2 k (fun (out2 : List (Int × Int)) =>
        K out2) k radius1 (0 : Int) h1 []) k radius (0 : Int) h
/-- spec.RingOf -/
def spec_RingOf (k : Nat) (h : Int × Int) (radius : Int) {R : Type} (K : (List (Int × Int)) → Bool → Option R) : Option R :=
  spec_hGood h fun (r : Bool) =>
  bif !r then
    K [] false
  else
    spec_l1In radius (0 : Int) (6 : Int) fun (r0 : Bool) =>
    bif !r0 then
      K [] false
    else
      spec_hRing k h radius fun (r1 : List (Int × Int)) =>
      spec_hAll k r1 fun (r2 : List (Int × Int)) (r3 : Bool) =>
      K r2 r3
/-- impl.RingOf -/
def impl_RingOf_l0 (k : Nat) {R : Type} (K0 : Int → Int → (List (Int × Int)) → (Int × Int) → Option R) : Nat → Int → Int → Int → Int → Int → (List (Int × Int)) → (Int × Int) → Option R
  | 0, _, _, _, _, _, _, _ => none
  | m + 1, radius1, d, x0, x1, x2, out0, at_0 =>
    bif decide (x2 < x1) then
      bif decide (List.length out0 + List.length [at_0] ≤ maxGrow) then
        impl_stepBy at_0 d (1 : Int) fun (r2 : Int × Int) =>
        impl_RingOf_l0 k K0 m radius1 d x0 x1 (IntKind.wrap .i64 (x2 + (1 : Int))) (out0 ++ [at_0]) r2
      else
        none
    else
      K0 radius1 x0 out0 at_0
def impl_RingOf_l1 (k : Nat) {R : Type} (K0 : (List (Int × Int)) → Option R) : Nat → Int → Int → (List (Int × Int)) → (Int × Int) → Option R
  | 0, _, _, _, _ => none
  | m + 1, radius0, x, out, at_ =>
    bif decide (x < (6 : Int)) then
      impl_RingOf_l0 k (fun (radius2 : Int) (x3 : Int) (out1 : List (Int × Int)) (at_1 : Int × Int) =>
        impl_RingOf_l1 k K0 m radius2 (IntKind.wrap .i64 (x3 + (1 : Int))) out1 at_1) k radius0 x x radius0 (0 : Int) out at_
    else
      K0 out
def impl_RingOf (k : Nat) (h : Int × Int) (radius : Int) {R : Type} (K : (List (Int × Int)) → Bool → Option R) : Option R :=
  impl_IsHex h fun (r : Bool) =>
  bif !r then
    K [] false
  else
    impl_inRange radius (0 : Int) (6 : Int) fun (r0 : Bool) =>
    bif !r0 then
      K [] false
    else
      impl_stepBy h (4 : Int) radius fun (r1 : Int × Int) =>
      bif decide (radius = (0 : Int)) then
        impl_RingOf_l1 k (fun (out2 : List (Int × Int)) =>
          impl_allHexes k out2 fun (r3 : Bool) =>
          bif !r3 then
            K [] false
          else
            K out2 true) k radius (0 : Int) [h] r1
      else
        impl_RingOf_l1 k (fun (out3 : List (Int × Int)) =>
          impl_allHexes k out3 fun (r4 : Bool) =>
          bif !r4 then
            K [] false
          else
            K out3 true) k radius (0 : Int) [] r1
/-- laws.FnExactRingOf -/
def laws_FnExactRingOf (k : Nat) (x : Int × Int) (x0 : Int) {R : Type} (K : Bool → Option R) : Option R :=
  laws_toHex x fun (r : Int × Int) =>
  spec_RingOf k r x0 fun (r0 : List (Int × Int)) (r1 : Bool) =>
  laws_toHex x fun (r2 : Int × Int) =>
  impl_RingOf k r2 x0 fun (r3 : List (Int × Int)) (r4 : Bool) =>
  laws_eqHexS k r3 r0 fun (r5 : Bool) =>
  bif !r5 then
    K false
  else
    bif !(r4 == r1) then
      K false
    else
      laws_markHexS_in k r3 (1 : Int) fun (t : List (Int × Int)) (r6 : Int) =>
      laws_heldHexS k t (1 : Int) fun (r7 : Int) =>
      bif decide (r7 < (0 : Int)) then
        K false
      else
        bif !(decide (r7 = r6)) then
          K false
        else
          laws_toHex x fun (r8 : Int × Int) =>
          impl_RingOf k r8 x0 fun (r9 : List (Int × Int)) (r10 : Bool) =>
          laws_eqHexS k r9 r0 fun (r11 : Bool) =>
          bif !r11 then
            K false
          else
            bif !(r10 == r1) then
              K false
            else
              laws_heldHexS k t (1 : Int) fun (r12 : Int) =>
              bif decide (r12 < (0 : Int)) then
                K false
              else
                bif !(decide (r12 = r6)) then
                  K false
                else
                  K true
/-- spec.WalkFrom -/
def spec_WalkFrom_l0 (k : Nat) {R : Type} (K0 : (List (Int × Int)) → Option R) : Nat → (List Int) → Int → Int → (Int × Int) → (List (Int × Int)) → Option R
  | 0, _, _, _, _, _ => none
  | m + 1, x, x0, x1, h0, out =>
    bif decide (x1 < x0) then
      bif decide ((0 : Int) ≤ x1) && decide (x1 < ((List.length x : Nat) : Int)) then
        spec_hStep h0 (List.getD x (Int.toNat x1) (0 : Int)) fun (r1 : Int × Int) =>
        bif decide (List.length out + List.length [r1] ≤ maxGrow) then
          spec_WalkFrom_l0 k K0 m x x0 (IntKind.wrap .i64 (x1 + (1 : Int))) r1 (out ++ [r1])
        else
          none
      else
        none
    else
      K0 out
def spec_WalkFrom (k : Nat) (h : Int × Int) (path : List Int) {R : Type} (K : (List (Int × Int)) → Bool → Option R) : Option R :=
  spec_hGood h fun (r : Bool) =>
  bif !r then
    K [] false
  else
    bif decide ((60 : Int) < ((List.length path : Nat) : Int)) then
      K [] false
    else
      spec_l1All k path (0 : Int) (5 : Int) fun (r0 : Bool) =>
      bif !r0 then
        K [] false
      else
        spec_WalkFrom_l0 k (fun (out0 : List (Int × Int)) =>
          spec_hAll k out0 fun (r2 : List (Int × Int)) (r3 : Bool) =>
          K r2 r3) k path ((List.length path : Nat) : Int) (0 : Int) h []
/-- impl.WalkFrom -/
def impl_WalkFrom_l0 (k : Nat) {R : Type} (K0 : (List Int) → (Int × Int) → Option R) (K1 : Bool → Option R) : Nat → (List Int) → (List Int) → Int → Int → (Int × Int) → Option R
  | 0, _, _, _, _, _ => none
  | m + 1, path0, x, x0, x1, h0 =>
    bif decide (x1 < x0) then
      bif decide ((0 : Int) ≤ x1) && decide (x1 < ((List.length x : Nat) : Int)) then
        impl_isDirection (List.getD x (Int.toNat x1) (0 : Int)) fun (r0 : Bool) =>
        bif !r0 then
          K1 false
        else
          impl_WalkFrom_l0 k K0 K1 m path0 x x0 (IntKind.wrap .i64 (x1 + (1 : Int))) h0
      else
        none
    else
      K0 path0 h0
def impl_WalkFrom_l1 (k : Nat) {R : Type} (K0 : (List (Int × Int)) → Option R) (K1 : Bool → Option R) : Nat → (List Int) → Int → Int → (Int × Int) → (List (Int × Int)) → Option R
  | 0, _, _, _, _, _ => none
  | m + 1, x2, x3, x4, h2, out =>
    bif decide (x4 < x3) then
      bif decide ((0 : Int) ≤ x4) && decide (x4 < ((List.length x2 : Nat) : Int)) then
        impl_stepBy h2 (List.getD x2 (Int.toNat x4) (0 : Int)) (1 : Int) fun (r1 : Int × Int) =>
        impl_IsHex r1 fun (r2 : Bool) =>
        bif !r2 then
          K1 false
        else
          bif decide (List.length out + List.length [r1] ≤ maxGrow) then
            impl_WalkFrom_l1 k K0 K1 m x2 x3 (IntKind.wrap .i64 (x4 + (1 : Int))) r1 (out ++ [r1])
          else
            none
      else
        none
    else
      K0 out
def impl_WalkFrom (k : Nat) (h : Int × Int) (path : List Int) {R : Type} (K : (List (Int × Int)) → Bool → Option R) : Option R :=
  impl_IsHex h fun (r : Bool) =>
  bif !r then
    K [] false
  else
    bif decide ((60 : Int) < ((List.length path : Nat) : Int)) then
      K [] false
    else
      impl_WalkFrom_l0 k (fun (path1 : List Int) (h1 : Int × Int) =>
        impl_WalkFrom_l1 k (fun (out0 : List (Int × Int)) =>
          K out0 true) (fun (x5 : Bool) =>
          K [] x5) k path1 ((List.length path1 : Nat) : Int) (0 : Int) h1 []) (fun (x6 : Bool) =>
        K [] x6) k path path ((List.length path : Nat) : Int) (0 : Int) h
/-- laws.markIntS -/
def laws_markIntS_in_l0 (k : Nat) {R : Type} (K0 : Int → (List Int) → Option R) : Nat → Int → Int → (List Int) → Option R
  | 0, _, _, _ => none
  | m + 1, k_0, i, a0 =>
    bif decide (i < ((List.length a0 : Nat) : Int)) then
      bif decide ((0 : Int) ≤ i) && decide (i < ((List.length a0 : Nat) : Int)) then
        laws_markIntS_in_l0 k K0 m (IntKind.wrap .i64 (k_0 + (1 : Int))) (IntKind.wrap .i64 (i + (1 : Int))) (List.set a0 (Int.toNat i) k_0)
      else
        none
    else
      K0 k_0 a0
def laws_markIntS_in (k : Nat) (a : List Int) (k_ : Int) {R : Type} (K : (List Int) → Int → Option R) : Option R :=
  laws_markIntS_in_l0 k (fun (k_1 : Int) (b : List Int) =>
    K b k_1) k k_ (0 : Int) a
/-- laws.FnExactWalkFrom -/
def laws_FnExactWalkFrom (k : Nat) (x : Int × Int) (x0 : List Int) {R : Type} (K : Bool → Option R) : Option R :=
  bif decide ((1048576 : Int) < ((List.length x0 : Nat) : Int)) then
    K true
  else
    laws_toHex x fun (r : Int × Int) =>
    laws_toIntS k x0 fun (r0 : List Int) =>
    spec_WalkFrom k r r0 fun (r1 : List (Int × Int)) (r2 : Bool) =>
    laws_toIntS k x0 fun (r3 : List Int) =>
    laws_toHex x fun (r4 : Int × Int) =>
    impl_WalkFrom k r4 r3 fun (r5 : List (Int × Int)) (r6 : Bool) =>
    laws_eqHexS k r5 r1 fun (r7 : Bool) =>
    bif !r7 then
      K false
    else
      bif !(r6 == r2) then
        K false
      else
        laws_toIntS k x0 fun (r8 : List Int) =>
        laws_eqIntS k r3 r8 fun (r9 : Bool) =>
        bif !r9 then
          K false
        else
          laws_markIntS_in k r3 (1 : Int) fun (t : List Int) (r10 : Int) =>
          bif decide (r10 < (0 : Int)) then
            K false
          else
            laws_eqHexS k r5 r1 fun (r11 : Bool) =>
            bif !r11 then
              K false
            else
              bif !(r6 == r2) then
                K false
              else
                laws_markHexS_in k r5 (1 : Int) fun (t0 : List (Int × Int)) (r12 : Int) =>
                laws_heldHexS k t0 (1 : Int) fun (r13 : Int) =>
                bif decide (r13 < (0 : Int)) then
                  K false
                else
                  bif !(decide (r13 = r12)) then
                    K false
                  else
                    laws_toHex x fun (r14 : Int × Int) =>
                    laws_toIntS k x0 fun (r15 : List Int) =>
                    impl_WalkFrom k r14 r15 fun (r16 : List (Int × Int)) (r17 : Bool) =>
                    laws_eqHexS k r16 r1 fun (r18 : Bool) =>
                    bif !r18 then
                      K false
                    else
                      bif !(r17 == r2) then
                        K false
                      else
                        laws_heldHexS k t0 (1 : Int) fun (r19 : Int) =>
                        bif decide (r19 < (0 : Int)) then
                          K false
                        else
                          bif !(decide (r19 = r12)) then
                            K false
                          else
                            K true
/-- spec.mNear -/
def spec_mNear_l0 (k : Nat) {R : Type} (K0 : (List Int) → Option R) : Nat → Int → Int → Int → (Int × Int × (List Int) × (List Int) × List Int) → (List Int) → Option R
  | 0, _, _, _, _, _ => none
  | m + 1, i0, radius0, k_, m_0, out =>
    spec_mSize m_0 fun (r : Int) =>
    bif decide (k_ < r) then
      spec_mHex m_0 i0 fun (r0 : Int × Int) =>
      spec_mHex m_0 k_ fun (r1 : Int × Int) =>
      spec_hDistance r0 r1 fun (r2 : Int) =>
      bif decide (r2 ≤ radius0) then
        bif decide (List.length out + List.length [k_] ≤ maxGrow) then
          spec_mNear_l0 k K0 m i0 radius0 (IntKind.wrap .i64 (k_ + (1 : Int))) m_0 (out ++ [k_])
        else
          none
      else
        spec_mNear_l0 k K0 m i0 radius0 (IntKind.wrap .i64 (k_ + (1 : Int))) m_0 out
    else
      K0 out
def spec_mNear (k : Nat) (m_ : Int × Int × (List Int) × (List Int) × List Int) (i : Int) (radius : Int) {R : Type} (K : (List Int) → Option R) : Option R :=
  spec_mNear_l0 k (fun (out0 : List Int) =>
    K out0) k i radius (0 : Int) m_ []
/-- spec.NearOn -/
def spec_NearOn (k : Nat) (m_ : Int × Int × (List Int) × (List Int) × List Int) (i : Int) (radius : Int) {R : Type} (K : (List Int) → Bool → Option R) : Option R :=
  spec_mOn k m_ i fun (r : Bool) =>
  bif !r then
    K [] false
  else
    spec_l1In radius (0 : Int) (20 : Int) fun (r0 : Bool) =>
    bif !r0 then
      K [] false
    else
      spec_mNear k m_ i radius fun (r1 : List Int) =>
      K r1 true
/-- impl.NearOn -/
def impl_NearOn_l0 (k : Nat) {R : Type} (K0 : (List Int) → Option R) : Nat → Int → Int → Int → Int → (Int × Int × (List Int) × (List Int) × List Int) → (List Int) → Option R
  | 0, _, _, _, _, _, _ => none
  | m + 1, i0, radius0, x, x0, m_0, out =>
    bif decide (x0 < x) then
      impl_hexOf m_0 i0 fun (r1 : Int × Int) =>
      impl_hexOf m_0 x0 fun (r2 : Int × Int) =>
      impl_distance r1 r2 fun (r3 : Int) =>
      bif decide (r3 ≤ radius0) then
        bif decide (List.length out + List.length [x0] ≤ maxGrow) then
          impl_NearOn_l0 k K0 m i0 radius0 x (IntKind.wrap .i64 (x0 + (1 : Int))) m_0 (out ++ [x0])
        else
          none
      else
        impl_NearOn_l0 k K0 m i0 radius0 x (IntKind.wrap .i64 (x0 + (1 : Int))) m_0 out
    else
      K0 out
def impl_NearOn (k : Nat) (m_ : Int × Int × (List Int) × (List Int) × List Int) (i : Int) (radius : Int) {R : Type} (K : (List Int) → Bool → Option R) : Option R :=
  impl_isPlace k m_ i fun (r : Bool) =>
  bif !r then
    K [] false
  else
    impl_inRange radius (0 : Int) (20 : Int) fun (r0 : Bool) =>
    bif !r0 then
      K [] false
    else
      impl_NearOn_l0 k (fun (out0 : List Int) =>
        K out0 true) k i radius ((List.length m_.2.2.1 : Nat) : Int) (0 : Int) m_ []
/-- laws.markMap -/
def laws_markMap_in (k : Nat) (a : Int × Int × (List Int) × (List Int) × List Int) (k_ : Int) {R : Type} (K : (Int × Int × (List Int) × (List Int) × List Int) → Int → Option R) : Option R :=
  laws_markIntS_in k a.2.2.1 k_ fun (t : List Int) (r : Int) =>
  laws_markIntS_in k a.2.2.2.1 r fun (t0 : List Int) (r0 : Int) =>
  laws_markIntS_in k a.2.2.2.2 r0 fun (t1 : List Int) (r1 : Int) =>
  K (a.1, (a.2.1, (t, (t0, t1)))) r1
/-- laws.heldIntS -/
def laws_heldIntS_l0 (k : Nat) {R : Type} (K0 : Int → Option R) (K1 : Int → Option R) : Nat → (List Int) → Int → Int → Option R
  | 0, _, _, _ => none
  | m + 1, a0, k_0, i =>
    bif decide (i < ((List.length a0 : Nat) : Int)) then
      bif decide ((0 : Int) ≤ i) && decide (i < ((List.length a0 : Nat) : Int)) then
        bif !(decide (List.getD a0 (Int.toNat i) (0 : Int) = k_0)) then
          K1 (-1 : Int)
        else
          laws_heldIntS_l0 k K0 K1 m a0 (IntKind.wrap .i64 (k_0 + (1 : Int))) (IntKind.wrap .i64 (i + (1 : Int)))
      else
        none
    else
      K0 k_0
def laws_heldIntS (k : Nat) (a : List Int) (k_ : Int) {R : Type} (K : Int → Option R) : Option R :=
  laws_heldIntS_l0 k (fun (k_1 : Int) =>
    K k_1) (fun (x : Int) =>
    K x) k a k_ (0 : Int)
/-- laws.FnExactNearOn -/
def laws_FnExactNearOn (k : Nat) (x : Int × Int × (List Int) × (List Int) × List Int) (x0 : Int) (x1 : Int) {R : Type} (K : Bool → Option R) : Option R :=
  laws_szMap x (1048576 : Int) fun (r : Int) =>
  bif decide (r < (0 : Int)) then
    K true
  else
    laws_toMap k x fun (r0 : Int × Int × (List Int) × (List Int) × List Int) =>
    spec_NearOn k (r0.1, (r0.2.1, (r0.2.2.1, (r0.2.2.2.1, r0.2.2.2.2)))) x0 x1 fun (r1 : List Int) (r2 : Bool) =>
    laws_toMap k x fun (r3 : Int × Int × (List Int) × (List Int) × List Int) =>
    impl_NearOn k (r3.1, (r3.2.1, (r3.2.2.1, (r3.2.2.2.1, r3.2.2.2.2)))) x0 x1 fun (r4 : List Int) (r5 : Bool) =>
    laws_eqIntS k r4 r1 fun (r6 : Bool) =>
    bif !r6 then
      K false
    else
      bif !(r5 == r2) then
        K false
      else
        laws_toMap k x fun (r7 : Int × Int × (List Int) × (List Int) × List Int) =>
        laws_eqMap k (r3.1, (r3.2.1, (r3.2.2.1, (r3.2.2.2.1, r3.2.2.2.2)))) r7 fun (r8 : Bool) =>
        bif !r8 then
          K false
        else
          laws_markMap_in k (r3.1, (r3.2.1, (r3.2.2.1, (r3.2.2.2.1, r3.2.2.2.2)))) (1 : Int) fun (t : Int × Int × (List Int) × (List Int) × List Int) (r9 : Int) =>
          bif decide (r9 < (0 : Int)) then
            K false
          else
            laws_eqIntS k r4 r1 fun (r10 : Bool) =>
            bif !r10 then
              K false
            else
              bif !(r5 == r2) then
                K false
              else
                laws_markIntS_in k r4 (1 : Int) fun (t0 : List Int) (r11 : Int) =>
                laws_heldIntS k t0 (1 : Int) fun (r12 : Int) =>
                bif decide (r12 < (0 : Int)) then
                  K false
                else
                  bif !(decide (r12 = r11)) then
                    K false
                  else
                    laws_toMap k x fun (r13 : Int × Int × (List Int) × (List Int) × List Int) =>
                    impl_NearOn k (r13.1, (r13.2.1, (r13.2.2.1, (r13.2.2.2.1, r13.2.2.2.2)))) x0 x1 fun (r14 : List Int) (r15 : Bool) =>
                    laws_eqIntS k r14 r1 fun (r16 : Bool) =>
                    bif !r16 then
                      K false
                    else
                      bif !(r15 == r2) then
                        K false
                      else
                        laws_heldIntS k t0 (1 : Int) fun (r17 : Int) =>
                        bif decide (r17 < (0 : Int)) then
                          K false
                        else
                          bif !(decide (r17 = r11)) then
                            K false
                          else
                            K true
end Go.Lg
namespace Go.Lg
open Go Go.Ev
def sortI (xs : List Int) : List Int := xs.mergeSort fun x y => decide (x ≤ y)
def slices_Sort (xs : List Int) {R : Type} (K : List Int → Option R) : Option R := bif decide (List.length xs < 4611686018427387904) then K (sortI xs) else none
end Go.Lg
set_option linter.unusedVariables false
namespace Go.Lg
open Go Go.Ev
/-- spec.l1Put -/
def spec_l1Put_l0 (k : Nat) {R : Type} (K0 : (List Int) → Int → Int → Option R) : Nat → (List Int) → Int → Int → Option R
  | 0, _, _, _ => none
  | m + 1, l0, n_1, k_ =>
    bif decide (k_ < ((List.length l0 : Nat) : Int)) then
      bif decide ((0 : Int) ≤ k_) && decide (k_ < ((List.length l0 : Nat) : Int)) then
        bif decide (List.getD l0 (Int.toNat k_) (0 : Int) < n_1) then
          spec_l1Put_l0 k K0 m l0 n_1 (IntKind.wrap .i64 (k_ + (1 : Int)))
        else
          K0 l0 n_1 k_
      else
        none
    else
      K0 l0 n_1 k_
def spec_l1Put (k : Nat) (l : List Int) (n_0 : Int) {R : Type} (K : (List Int) → Option R) : Option R :=
  spec_l1Put_l0 k (fun (l1 : List Int) (n_2 : Int) (k_0 : Int) =>
    bif decide (k_0 < ((List.length l1 : Nat) : Int)) then
      bif decide ((0 : Int) ≤ k_0) && decide (k_0 < ((List.length l1 : Nat) : Int)) then
        bif decide (List.getD l1 (Int.toNat k_0) (0 : Int) = n_2) then
          K l1
        else
          bif decide ((0 : Int) ≤ k_0) && decide (k_0 ≤ ((List.length l1 : Nat) : Int)) then
            bif decide ((0 : Nat) + List.length (List.drop 0 (List.take (Int.toNat k_0) l1)) ≤ maxGrow) then
              bif decide (List.length ([] ++ (List.drop 0 (List.take (Int.toNat k_0) l1))) + List.length [n_2] ≤ maxGrow) then
                bif decide ((0 : Int) ≤ k_0) && decide (k_0 ≤ ((List.length l1 : Nat) : Int)) then
                  bif decide (List.length (([] ++ (List.drop 0 (List.take (Int.toNat k_0) l1))) ++ [n_2]) + List.length (List.drop (Int.toNat k_0) (List.take (List.length l1) l1)) ≤ maxGrow) then
                    K ((([] ++ (List.drop 0 (List.take (Int.toNat k_0) l1))) ++ [n_2]) ++ (List.drop (Int.toNat k_0) (List.take (List.length l1) l1)))
                  else
                    none
                else
                  none
              else
                none
            else
              none
          else
            none
      else
        none
    else
      bif decide ((0 : Int) ≤ k_0) && decide (k_0 ≤ ((List.length l1 : Nat) : Int)) then
        bif decide ((0 : Nat) + List.length (List.drop 0 (List.take (Int.toNat k_0) l1)) ≤ maxGrow) then
          bif decide (List.length ([] ++ (List.drop 0 (List.take (Int.toNat k_0) l1))) + List.length [n_2] ≤ maxGrow) then
            bif decide ((0 : Int) ≤ k_0) && decide (k_0 ≤ ((List.length l1 : Nat) : Int)) then
              bif decide (List.length (([] ++ (List.drop 0 (List.take (Int.toNat k_0) l1))) ++ [n_2]) + List.length (List.drop (Int.toNat k_0) (List.take (List.length l1) l1)) ≤ maxGrow) then
                K ((([] ++ (List.drop 0 (List.take (Int.toNat k_0) l1))) ++ [n_2]) ++ (List.drop (Int.toNat k_0) (List.take (List.length l1) l1)))
              else
                none
            else
              none
          else
            none
        else
          none
      else
        none) k l n_0 (0 : Int)
/-- spec.bRegion -/
def spec_bRegion_l0 (k : Nat) {R : Type} (K0 : Int → (List Int) → Int → (((List (ByteArray × (List Int) × Int × Int × Bool)) × (List (ByteArray × Int × Int × Int × Bool × Int)) × Int × Int × Int × Int × Int) × Int × Int × (List Int) × (List Int) × List Int) → (List Int) → Option R) : Nat → Int → (List Int) → Int → Int → (((List (ByteArray × (List Int) × Int × Int × Bool)) × (List (ByteArray × Int × Int × Int × Bool × Int)) × Int × Int × Int × Int × Int) × Int × Int × (List Int) × (List Int) × List Int) → (List Int) → Option R
  | 0, _, _, _, _, _, _ => none
  | m + 1, kind1, out0, at_0, d, b1, queue0 =>
    bif decide (d < (6 : Int)) then
      bif decide ((0 : Int) ≤ at_0) && decide (at_0 < ((List.length queue0 : Nat) : Int)) then
        spec_mNext b1.2 (List.getD queue0 (Int.toNat at_0) (0 : Int)) d fun (r : Int) =>
        bif decide ((0 : Int) ≤ r) then
          spec_bCost b1 kind1 r fun (r0 : Int) =>
          bif decide ((0 : Int) < r0) then
            spec_l1Has k out0 r fun (r1 : Bool) =>
            bif !r1 then
              spec_l1Put k out0 r fun (r2 : List Int) =>
              bif decide (List.length queue0 + List.length [r] ≤ maxGrow) then
                spec_bRegion_l0 k K0 m kind1 r2 at_0 (IntKind.wrap .i64 (d + (1 : Int))) b1 (queue0 ++ [r])
              else
                none
            else
              spec_bRegion_l0 k K0 m kind1 out0 at_0 (IntKind.wrap .i64 (d + (1 : Int))) b1 queue0
          else
            spec_bRegion_l0 k K0 m kind1 out0 at_0 (IntKind.wrap .i64 (d + (1 : Int))) b1 queue0
        else
          spec_bRegion_l0 k K0 m kind1 out0 at_0 (IntKind.wrap .i64 (d + (1 : Int))) b1 queue0
      else
        none
    else
      K0 kind1 out0 at_0 b1 queue0
def spec_bRegion_l1 (k : Nat) {R : Type} (K0 : (List Int) → Option R) : Nat → Int → (List Int) → Int → (((List (ByteArray × (List Int) × Int × Int × Bool)) × (List (ByteArray × Int × Int × Int × Bool × Int)) × Int × Int × Int × Int × Int) × Int × Int × (List Int) × (List Int) × List Int) → (List Int) → Option R
  | 0, _, _, _, _, _ => none
  | m + 1, kind0, out, at_, b0, queue =>
    bif decide (at_ < ((List.length queue : Nat) : Int)) then
      spec_bRegion_l0 k (fun (kind2 : Int) (out1 : List Int) (at_1 : Int) (b2 : ((List (ByteArray × (List Int) × Int × Int × Bool)) × (List (ByteArray × Int × Int × Int × Bool × Int)) × Int × Int × Int × Int × Int) × Int × Int × (List Int) × (List Int) × List Int) (queue1 : List Int) =>
        spec_bRegion_l1 k K0 m kind2 out1 (IntKind.wrap .i64 (at_1 + (1 : Int))) b2 queue1) k kind0 out at_ (0 : Int) b0 queue
    else
      K0 out
def spec_bRegion (k : Nat) (b : ((List (ByteArray × (List Int) × Int × Int × Bool)) × (List (ByteArray × Int × Int × Int × Bool × Int)) × Int × Int × Int × Int × Int) × Int × Int × (List Int) × (List Int) × List Int) (kind : Int) (i : Int) {R : Type} (K : (List Int) → Option R) : Option R :=
  spec_bRegion_l1 k (fun (out2 : List Int) =>
    K out2) k kind [i] (0 : Int) b [i]
/-- spec.SameRegion -/
def spec_SameRegion (k : Nat) (b : ((List (ByteArray × (List Int) × Int × Int × Bool)) × (List (ByteArray × Int × Int × Int × Bool × Int)) × Int × Int × Int × Int × Int) × Int × Int × (List Int) × (List Int) × List Int) (kind : Int) (i : Int) (k_ : Int) {R : Type} (K : Bool → Bool → Option R) : Option R :=
  spec_bAt k b kind i fun (r : Bool) =>
  bif !r then
    K false false
  else
    spec_bAt k b kind k_ fun (r0 : Bool) =>
    bif !r0 then
      K false false
    else
      spec_bCost b kind i fun (r1 : Int) =>
      bif decide ((0 : Int) < r1) then
        spec_bRegion k b kind i fun (r2 : List Int) =>
        spec_l1Has k r2 k_ fun (r3 : Bool) =>
        K r3 true
      else
        K false true
/-- impl.openHexes -/
def impl_openHexes_l0 (k : Nat) {R : Type} (K0 : (List Int) → Option R) : Nat → Int → Int → Int → (((List (ByteArray × (List Int) × Int × Int × Bool)) × (List (ByteArray × Int × Int × Int × Bool × Int)) × Int × Int × Int × Int × Int) × Int × Int × (List Int) × (List Int) × List Int) → (List Int) → Option R
  | 0, _, _, _, _, _ => none
  | m + 1, kind0, x, x0, b0, out =>
    bif decide (x0 < x) then
      impl_enterCost b0 kind0 x0 fun (r : Int) =>
      bif !(decide (r = (0 : Int))) then
        bif decide (List.length out + List.length [x0] ≤ maxGrow) then
          impl_openHexes_l0 k K0 m kind0 x (IntKind.wrap .i64 (x0 + (1 : Int))) b0 (out ++ [x0])
        else
          none
      else
        impl_openHexes_l0 k K0 m kind0 x (IntKind.wrap .i64 (x0 + (1 : Int))) b0 out
    else
      K0 out
def impl_openHexes (k : Nat) (b : ((List (ByteArray × (List Int) × Int × Int × Bool)) × (List (ByteArray × Int × Int × Int × Bool × Int)) × Int × Int × Int × Int × Int) × Int × Int × (List Int) × (List Int) × List Int) (kind : Int) {R : Type} (K : (List Int) → Option R) : Option R :=
  impl_openHexes_l0 k (fun (out0 : List Int) =>
    K out0) k kind ((List.length b.2.2.2.1 : Nat) : Int) (0 : Int) b []
/-- impl.neighboursOn -/
def impl_neighboursOn_l0 (k : Nat) {R : Type} (K0 : (List Int) → Option R) : Nat → Int → Int → (Int × Int × (List Int) × (List Int) × List Int) → (List Int) → Option R
  | 0, _, _, _, _ => none
  | m + 1, i0, x, m_0, out =>
    bif decide (x < (6 : Int)) then
      impl_nextTo m_0 i0 x fun (r : Int) =>
      bif decide ((0 : Int) ≤ r) then
        bif decide (List.length out + List.length [r] ≤ maxGrow) then
          impl_neighboursOn_l0 k K0 m i0 (IntKind.wrap .i64 (x + (1 : Int))) m_0 (out ++ [r])
        else
          none
      else
        impl_neighboursOn_l0 k K0 m i0 (IntKind.wrap .i64 (x + (1 : Int))) m_0 out
    else
      K0 out
def impl_neighboursOn (k : Nat) (m_ : Int × Int × (List Int) × (List Int) × List Int) (i : Int) {R : Type} (K : (List Int) → Option R) : Option R :=
  impl_neighboursOn_l0 k (fun (out0 : List Int) =>
    K out0) k i (0 : Int) m_ []
/-- impl.regionsOf -/
def impl_regionsOf_l0 (k : Nat) {R : Type} (K0 : Int → Int → Int → Int → (((List (ByteArray × (List Int) × Int × Int × Bool)) × (List (ByteArray × Int × Int × Int × Bool × Int)) × Int × Int × Int × Int × Int) × Int × Int × (List Int) × (List Int) × List Int) → (List (List Int)) → (List Bool) → (List Int) → (List Int) → Option R) : Nat → Int → Int → Int → Int → (List Int) → Int → Int → (((List (ByteArray × (List Int) × Int × Int × Bool)) × (List (ByteArray × Int × Int × Int × Bool × Int)) × Int × Int × Int × Int × Int) × Int × Int × (List Int) × (List Int) × List Int) → (List (List Int)) → (List Bool) → (List Int) → (List Int) → Option R
  | 0, _, _, _, _, _, _, _, _, _, _, _, _ => none
  | m + 1, x17, x18, x19, x20, x21, x22, x23, x24, x25, x26, x27, x28 =>
    bif decide (x23 < x22) then
      bif decide ((0 : Int) ≤ x23) && decide (x23 < ((List.length x21 : Nat) : Int)) then
        bif decide ((0 : Int) ≤ List.getD x21 (Int.toNat x23) (0 : Int)) && decide (List.getD x21 (Int.toNat x23) (0 : Int) < ((List.length x26 : Nat) : Int)) then
          bif !(List.getD x26 (Int.toNat (List.getD x21 (Int.toNat x23) (0 : Int))) false) then
            impl_enterCost x24 x17 (List.getD x21 (Int.toNat x23) (0 : Int)) fun (r2 : Int) =>
            bif !(decide (r2 = (0 : Int))) then
              bif decide ((0 : Int) ≤ List.getD x21 (Int.toNat x23) (0 : Int)) && decide (List.getD x21 (Int.toNat x23) (0 : Int) < ((List.length x26 : Nat) : Int)) then
                bif decide (List.length x27 + List.length [List.getD x21 (Int.toNat x23) (0 : Int)] ≤ maxGrow) then
                  impl_regionsOf_l0 k K0 m x17 x18 x19 x20 x21 x22 (IntKind.wrap .i64 (x23 + (1 : Int))) x24 x25 (List.set x26 (Int.toNat (List.getD x21 (Int.toNat x23) (0 : Int))) true) (x27 ++ [List.getD x21 (Int.toNat x23) (0 : Int)]) x28
                else
                  none
              else
                none
            else
              impl_regionsOf_l0 k K0 m x17 x18 x19 x20 x21 x22 (IntKind.wrap .i64 (x23 + (1 : Int))) x24 x25 x26 x27 x28
          else
            impl_regionsOf_l0 k K0 m x17 x18 x19 x20 x21 x22 (IntKind.wrap .i64 (x23 + (1 : Int))) x24 x25 x26 x27 x28
        else
          none
      else
        none
    else
      K0 x17 x18 x19 x20 x24 x25 x26 x27 x28
def impl_regionsOf_l1 (k : Nat) {R : Type} (K0 : Int → Int → Int → (((List (ByteArray × (List Int) × Int × Int × Bool)) × (List (ByteArray × Int × Int × Int × Bool × Int)) × Int × Int × Int × Int × Int) × Int × Int × (List Int) × (List Int) × List Int) → (List (List Int)) → (List Bool) → (List Int) → (List Int) → Option R) : Nat → Int → Int → Int → Int → (((List (ByteArray × (List Int) × Int × Int × Bool)) × (List (ByteArray × Int × Int × Int × Bool × Int)) × Int × Int × Int × Int × Int) × Int × Int × (List Int) × (List Int) × List Int) → (List (List Int)) → (List Bool) → (List Int) → (List Int) → Option R
  | 0, _, _, _, _, _, _, _, _, _ => none
  | m + 1, x8, x9, x10, x11, x12, x13, x14, x15, x16 =>
    bif decide (x9 < ((List.length x15 : Nat) : Int)) then
      bif decide ((0 : Int) ≤ x9) && decide (x9 < ((List.length x15 : Nat) : Int)) then
        impl_neighboursOn k x12.2 (List.getD x15 (Int.toNat x9) (0 : Int)) fun (r1 : List Int) =>
        impl_regionsOf_l0 k (fun (x29 : Int) (x30 : Int) (x31 : Int) (x32 : Int) (x33 : ((List (ByteArray × (List Int) × Int × Int × Bool)) × (List (ByteArray × Int × Int × Int × Bool × Int)) × Int × Int × Int × Int × Int) × Int × Int × (List Int) × (List Int) × List Int) (x34 : List (List Int)) (x35 : List Bool) (x36 : List Int) (x37 : List Int) =>
          impl_regionsOf_l1 k K0 m x29 (IntKind.wrap .i64 (x30 + (1 : Int))) x31 x32 x33 x34 x35 x36 x37) k x8 x9 x10 x11 r1 ((List.length r1 : Nat) : Int) (0 : Int) x12 x13 x14 x15 x16
      else
        none
    else
      K0 x8 x10 x11 x12 x13 x14 x15 x16
def impl_regionsOf_l2 (k : Nat) {R : Type} (K0 : (List (List Int)) → Option R) : Nat → Int → Int → Int → (((List (ByteArray × (List Int) × Int × Int × Bool)) × (List (ByteArray × Int × Int × Int × Bool × Int)) × Int × Int × Int × Int × Int) × Int × Int × (List Int) × (List Int) × List Int) → (List (List Int)) → (List Bool) → (List Int) → Option R
  | 0, _, _, _, _, _, _, _ => none
  | m + 1, x1, x2, x3, x4, x5, x6, x7 =>
    bif decide (x3 < x2) then
      bif decide ((0 : Int) ≤ x3) && decide (x3 < ((List.length x7 : Nat) : Int)) then
        bif decide ((0 : Int) ≤ List.getD x7 (Int.toNat x3) (0 : Int)) && decide (List.getD x7 (Int.toNat x3) (0 : Int) < ((List.length x6 : Nat) : Int)) then
          bif List.getD x6 (Int.toNat (List.getD x7 (Int.toNat x3) (0 : Int))) false then
            impl_regionsOf_l2 k K0 m x1 x2 (IntKind.wrap .i64 (x3 + (1 : Int))) x4 x5 x6 x7
          else
            bif decide ((0 : Int) ≤ List.getD x7 (Int.toNat x3) (0 : Int)) && decide (List.getD x7 (Int.toNat x3) (0 : Int) < ((List.length x6 : Nat) : Int)) then
              impl_regionsOf_l1 k (fun (x38 : Int) (x39 : Int) (x40 : Int) (x41 : ((List (ByteArray × (List Int) × Int × Int × Bool)) × (List (ByteArray × Int × Int × Int × Bool × Int)) × Int × Int × Int × Int × Int) × Int × Int × (List Int) × (List Int) × List Int) (x42 : List (List Int)) (x43 : List Bool) (x44 : List Int) (x45 : List Int) =>
                slices_Sort x44 fun (t : List Int) =>
                bif decide (List.length x42 + List.length [t] ≤ maxGrow) then
                  impl_regionsOf_l2 k K0 m x38 x39 (IntKind.wrap .i64 (x40 + (1 : Int))) x41 (x42 ++ [t]) x43 x45
                else
                  none) k x1 (0 : Int) x2 x3 x4 x5 (List.set x6 (Int.toNat (List.getD x7 (Int.toNat x3) (0 : Int))) true) [List.getD x7 (Int.toNat x3) (0 : Int)] x7
            else
              none
        else
          none
      else
        none
    else
      K0 x5
def impl_regionsOf (k : Nat) (x : ((List (ByteArray × (List Int) × Int × Int × Bool)) × (List (ByteArray × Int × Int × Int × Bool × Int)) × Int × Int × Int × Int × Int) × Int × Int × (List Int) × (List Int) × List Int) (x0 : Int) {R : Type} (K : (List (List Int)) → Option R) : Option R :=
  impl_sizeOf x fun (r : Int) =>
  bif decide ((0 : Int) ≤ r) && decide (r ≤ (137438953472 : Int)) && decide (r = r) then
    impl_openHexes k x x0 fun (r0 : List Int) =>
    impl_regionsOf_l2 k (fun (x46 : List (List Int)) =>
      K x46) k x0 ((List.length r0 : Nat) : Int) (0 : Int) x [] (List.replicate (Int.toNat r) false) r0
  else
    none
/-- impl.SameRegion -/
def impl_SameRegion_l0 (k : Nat) {R : Type} (K0 : Option R) (K1 : Bool → Bool → Option R) : Nat → Int → Int → Int → Int → (List (List Int)) → Option R
  | 0, _, _, _, _, _ => none
  | m + 1, i0, k_0, x, x0, x1 =>
    bif decide (x0 < x) then
      bif decide ((0 : Int) ≤ x0) && decide (x0 < ((List.length x1 : Nat) : Int)) then
        slices_Contains_Sint_int k (List.getD x1 (Int.toNat x0) []) i0 fun (r5 : Bool) =>
        bif r5 then
          slices_Contains_Sint_int k (List.getD x1 (Int.toNat x0) []) k_0 fun (r6 : Bool) =>
          K1 r6 true
        else
          impl_SameRegion_l0 k K0 K1 m i0 k_0 x (IntKind.wrap .i64 (x0 + (1 : Int))) x1
      else
        none
    else
      K0
def impl_SameRegion (k : Nat) (b : ((List (ByteArray × (List Int) × Int × Int × Bool)) × (List (ByteArray × Int × Int × Int × Bool × Int)) × Int × Int × Int × Int × Int) × Int × Int × (List Int) × (List Int) × List Int) (kind : Int) (i : Int) (k_ : Int) {R : Type} (K : Bool → Bool → Option R) : Option R :=
  impl_isKindOf k b kind fun (r : Bool) =>
  bif !r then
    K false false
  else
    impl_sizeOf b fun (r0 : Int) =>
    impl_isIndex i r0 fun (r1 : Bool) =>
    bif !r1 then
      K false false
    else
      impl_sizeOf b fun (r2 : Int) =>
      impl_isIndex k_ r2 fun (r3 : Bool) =>
      bif !r3 then
        K false false
      else
        impl_regionsOf k b kind fun (r4 : List (List Int)) =>
        impl_SameRegion_l0 k (
          K false true) (fun (x2 : Bool) (x3 : Bool) =>
          K x2 x3) k i k_ ((List.length r4 : Nat) : Int) (0 : Int) r4
/-- laws.FnExactSameRegion -/
def laws_FnExactSameRegion (k : Nat) (aB : ((List (ByteArray × (List Int) × Int × Int × Bool)) × (List (ByteArray × Int × Int × Int × Bool × Int)) × Int × Int × Int × Int × Int) × Int × Int × (List Int) × (List Int) × List Int) (aKind : Int) (aI : Int) (aK : Int) {R : Type} (K : Bool → Option R) : Option R :=
  laws_szBoard k aB (1048576 : Int) fun (r : Int) =>
  bif decide (r < (0 : Int)) then
    K true
  else
    laws_toBoard k aB fun (r0 : ((List (ByteArray × (List Int) × Int × Int × Bool)) × (List (ByteArray × Int × Int × Int × Bool × Int)) × Int × Int × Int × Int × Int) × Int × Int × (List Int) × (List Int) × List Int) =>
    spec_SameRegion k r0 aKind aI aK fun (r1 : Bool) (r2 : Bool) =>
    laws_toBoard k aB fun (r3 : ((List (ByteArray × (List Int) × Int × Int × Bool)) × (List (ByteArray × Int × Int × Int × Bool × Int)) × Int × Int × Int × Int × Int) × Int × Int × (List Int) × (List Int) × List Int) =>
    impl_SameRegion k r3 aKind aI aK fun (r4 : Bool) (r5 : Bool) =>
    bif !(r4 == r1) then
      K false
    else
      bif !(r5 == r2) then
        K false
      else
        laws_toBoard k aB fun (r6 : ((List (ByteArray × (List Int) × Int × Int × Bool)) × (List (ByteArray × Int × Int × Int × Bool × Int)) × Int × Int × Int × Int × Int) × Int × Int × (List Int) × (List Int) × List Int) =>
        laws_eqBoard k r3 r6 fun (r7 : Bool) =>
        bif !r7 then
          K false
        else
          K true
end Go.Lg
