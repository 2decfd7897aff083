/- The evaluator's soundness, part 34: arguments and states by their shapes; tables of functions and loops. -/
import Derived.Test.YtpaikmmncnigkaaDoorEv2
import Derived.OpenShut
import Derived.FnData
set_option linter.unusedVariables false
set_option linter.unusedSimpArgs false
set_option linter.unusedSectionVars false
set_option linter.unusedSectionVars false
set_option linter.unusedVariables false
namespace Go.Ev
open Go Go.RowKit
/-- The shape of a value; c and e make a list of shapes. -/
inductive Sh where
  | val (T : Ty) | pval (T : Ty) | nil | own (id : Nat) | ptr (id : Nat)
  | agg (l : Sh) | tup (l : Sh) | fn (f : Nat) (l : Sh)
  | e | c (s l : Sh)
def Sh.den : Sh → Type
  | .val T => T.den
  | .pval T => T.den
  | .nil => Unit
  | .own _ => Unit
  | .ptr _ => Unit
  | .agg l => l.den
  | .tup l => l.den
  | .fn _ l => l.den
  | .e => Unit
  | .c s l => s.den × l.den
def unVal (T : Ty) (vs : List AV) : Option T.den := match vs with
  | [.val U x] => asTy T (U := U) x
  | _ => none
def unPval (T : Ty) (vs : List AV) : Option T.den := match vs with
  | [.pval U x] => asTy T (U := U) x
  | _ => none
def unNil (vs : List AV) : Option Unit := match vs with
  | [.nil] => some ()
  | _ => none
def unOwn (id : Nat) (vs : List AV) : Option Unit := match vs with
  | [.own id' ver] => bif Nat.beq id' id && Nat.beq ver 1 then some () else none
  | _ => none
def unPtr (id : Nat) (vs : List AV) : Option Unit := match vs with
  | [.ptr id' ver []] => bif Nat.beq id' id && Nat.beq ver 1 then some () else none
  | _ => none
def unAgg (vs : List AV) : Option (List AV) := match vs with
  | [.agg us] => some us
  | _ => none
def unTup (vs : List AV) : Option (List AV) := match vs with
  | [.tup us] => some us
  | _ => none
def unFn (f : Nat) (vs : List AV) : Option (List AV) := match vs with
  | [.fn g us] => bif Nat.beq g f then some us else none
  | _ => none
def unE (vs : List AV) : Option Unit := match vs with
  | [] => some ()
  | _ => none
def unC (vs : List AV) : Option (AV × List AV) := match vs with
  | v :: us => some (v, us)
  | [] => none
def grab : (s : Sh) → List AV → Option s.den
  | .val T, vs => unVal T vs
  | .pval T, vs => unPval T vs
  | .nil, vs => unNil vs
  | .own id, vs => unOwn id vs
  | .ptr id, vs => unPtr id vs
  | .agg l, vs => (unAgg vs).bind (grab l)
  | .tup l, vs => (unTup vs).bind (grab l)
  | .fn f l, vs => (unFn f vs).bind (grab l)
  | .e, vs => unE vs
  | .c s l, vs => (unC vs).bind fun p => (grab s [p.1]).bind fun x => (grab l p.2).bind fun y => some (x, y)
def give : (s : Sh) → s.den → List AV
  | .val T, x => [.val T x]
  | .pval T, x => [.pval T x]
  | .nil, _ => [.nil]
  | .own id, _ => [.own id 1]
  | .ptr id, _ => [.ptr id 1 []]
  | .agg l, x => [.agg (give l x)]
  | .tup l, x => [.tup (give l x)]
  | .fn f l, x => [.fn f (give l x)]
  | .e, _ => []
  | .c s l, x => give s x.1 ++ give l x.2
theorem grab_give : ∀ {s : Sh} {vs : List AV} {x : s.den}, grab s vs = some x → vs = give s x
  | .val T, vs, x, h => by
    have h : unVal T vs = some x := h
    unfold unVal at h
    split at h
    · obtain ⟨e, he⟩ := asTy_some h
      subst e; subst he; rfl
    · cases h
  | .pval T, vs, x, h => by
    have h : unPval T vs = some x := h
    unfold unPval at h
    split at h
    · obtain ⟨e, he⟩ := asTy_some h
      subst e; subst he; rfl
    · cases h
  | .nil, vs, x, h => by
    have h : unNil vs = some x := h
    unfold unNil at h
    split at h
    · rfl
    · cases h
  | .own id, vs, x, h => by
    have h : unOwn id vs = some x := h
    unfold unOwn at h
    split at h
    · rename_i id' ver _
      cases hb : (Nat.beq id' id && Nat.beq ver 1) with
      | false => rw [hb] at h; cases h
      | true =>
        simp only [Bool.and_eq_true] at hb
        rw [Nat.eq_of_beq_eq_true hb.1, Nat.eq_of_beq_eq_true hb.2]; rfl
    · cases h
  | .ptr id, vs, x, h => by
    have h : unPtr id vs = some x := h
    unfold unPtr at h
    split at h
    · rename_i id' ver _
      cases hb : (Nat.beq id' id && Nat.beq ver 1) with
      | false => rw [hb] at h; cases h
      | true =>
        simp only [Bool.and_eq_true] at hb
        rw [Nat.eq_of_beq_eq_true hb.1, Nat.eq_of_beq_eq_true hb.2]; rfl
    · cases h
  | .agg l, vs, x, h => by
    have h : (unAgg vs).bind (grab l) = some x := h
    obtain ⟨us, h1, h2⟩ := Option.bind_eq_some_iff.1 h
    unfold unAgg at h1
    split at h1
    · injection h1 with h1; subst h1
      rw [grab_give h2]; rfl
    · cases h1
  | .tup l, vs, x, h => by
    have h : (unTup vs).bind (grab l) = some x := h
    obtain ⟨us, h1, h2⟩ := Option.bind_eq_some_iff.1 h
    unfold unTup at h1
    split at h1
    · injection h1 with h1; subst h1
      rw [grab_give h2]; rfl
    · cases h1
  | .fn f l, vs, x, h => by
    have h : (unFn f vs).bind (grab l) = some x := h
    obtain ⟨us, h1, h2⟩ := Option.bind_eq_some_iff.1 h
    unfold unFn at h1
    split at h1
    · rename_i g us' _
      cases hb : Nat.beq g f with
      | false => rw [hb] at h1; cases h1
      | true =>
        rw [hb] at h1
        injection h1 with h1; subst h1
        rw [grab_give h2, Nat.eq_of_beq_eq_true hb]; rfl
    · cases h1
  | .e, vs, x, h => by
    have h : unE vs = some x := h
    unfold unE at h
    split at h
    · rfl
    · cases h
  | .c s l, vs, x, h => by
    have h : ((unC vs).bind fun p => (grab s [p.1]).bind fun x => (grab l p.2).bind fun y => some (x, y)) = some x := h
    obtain ⟨p, h1, h2⟩ := Option.bind_eq_some_iff.1 h
    obtain ⟨y, h3, h4⟩ := Option.bind_eq_some_iff.1 h2
    obtain ⟨z, h5, h6⟩ := Option.bind_eq_some_iff.1 h4
    injection h6 with h6; subst h6
    unfold unC at h1
    split at h1
    · injection h1 with h1; subst h1
      show _ = give s y ++ give l z
      rw [← grab_give h3, ← grab_give h5]; rfl
    · cases h1
/-! ### functions -/
abbrev FArg (ss : Sh) := ∀ {R : Type}, ss.den → (List Res → Option R) → Option R
def ftab (ss : Sh) (F : FArg ss) : FFun := fun {R} args K => (grab ss args).bind fun x => F (R := R) x K
theorem ftab_some {ss : Sh} {F : FArg ss} {args : List AV} {x : ss.den} (h : grab ss args = some x) {R : Type} (K : List Res → Option R) : ftab ss F args K = F x K := by
  show (grab ss args).bind _ = _
  rw [h]; rfl
theorem ftab_none {ss : Sh} {F : FArg ss} {args : List AV} (h : grab ss args = none) {R : Type} (K : List Res → Option R) : ftab ss F args K = none := by
  show (grab ss args).bind _ = _
  rw [h]; rfl
theorem ftab_eq {E : Tbl} {LO : LTbl} {cx : Cx} {fn : Func} {ss : Sh} {F : FArg ss} (h : ∀ {R : Type} (x : ss.den) (K : List Res → Option R), F x K = evFun E LO cx fn (give ss x) K) : FunEq E LO cx fn (ftab ss F) := by
  intro args
  cases hg : grab ss args with
  | none => exact .inr fun K => ftab_none hg K
  | some x =>
    refine .inl fun K => (ftab_some hg K).trans ?_
    rw [grab_give hg]
    exact h x K
/-! ### states -/
inductive BSh where
  | row (T : Ty) | box (T : Ty) (s : Sh)
def BSh.den : BSh → Type
  | .row T => List T.den
  | .box _ s => s.den
def unRow (T : Ty) (v : Option Blk) : Option (List T.den) := match v with
  | some (.row U xs) => asTy (.sl T) (U := .sl U) xs
  | _ => none
def unBox (T : Ty) (v : Option Blk) : Option AV := match v with
  | some (.box U w) => if U = T then some w else none
  | _ => none
def grabB : (b : BSh) → Option Blk → Option b.den
  | .row T, v => unRow T v
  | .box T s, v => (unBox T v).bind fun w => grab s [w]
def hd (l : List AV) : AV := match l with
  | v :: _ => v
  | [] => .bot
def giveB : (b : BSh) → b.den → Blk
  | .row T, xs => .row T xs
  | .box T s, x => .box T (hd (give s x))
theorem grab_hd {s : Sh} {v : AV} {x : s.den} (h : grab s [v] = some x) : v = hd (give s x) := by
  rw [← grab_give h]; rfl
theorem grabB_give : ∀ {b : BSh} {v : Option Blk} {x : b.den}, grabB b v = some x → v = some (giveB b x)
  | .row T, v, x, h => by
    have h : unRow T v = some x := h
    rcases v with _ | (⟨U, w⟩ | ⟨U, xs⟩)
    · exact absurd (show none = some x from h) (by intro e; cases e)
    · exact absurd (show none = some x from h) (by intro e; cases e)
    · have h : asTy (.sl T) (U := .sl U) xs = some x := h
      obtain ⟨e, he⟩ := asTy_some h
      injection e with e
      subst e
      have he : x = xs := he.symm
      rw [he]; rfl
  | .box T s, v, x, h => by
    have h : ((unBox T v).bind fun w => grab s [w]) = some x := h
    obtain ⟨w, h1, h2⟩ := Option.bind_eq_some_iff.1 h
    unfold unBox at h1
    split at h1
    · split at h1
      · rename_i e
        injection h1 with h1
        subst e; subst h1
        rw [grab_hd h2]; rfl
      · cases h1
    · cases h1
def denT : List (Nat × Sh) → Type
  | [] => Unit
  | p :: l => p.2.den × denT l
def denI : List (Nat × BSh) → Type
  | [] => Unit
  | p :: l => p.2.den × denI l
def grabT (S : St) : (l : List (Nat × Sh)) → Option (denT l)
  | [] => some ()
  | p :: l => match grab p.2 [renV S (S.tm p.1)] with
    | some x => match grabT S l with
      | some y => some (x, y)
      | none => none
    | none => none
def grabI (S : St) : (l : List (Nat × BSh)) → Option (denI l)
  | [] => some ()
  | p :: l => match grabB p.2 (normB S p.1) with
    | some x => match grabI S l with
      | some y => some (x, y)
      | none => none
    | none => none
def giveT : (l : List (Nat × Sh)) → denT l → List (Nat × AV)
  | [], _ => []
  | p :: l, x => (p.1, hd (give p.2 x.1)) :: giveT l x.2
def giveI : (l : List (Nat × BSh)) → denI l → List (Nat × Option Blk)
  | [], _ => []
  | p :: l, x => (p.1, some (giveB p.2 x.1)) :: giveI l x.2
theorem grabT_give {S : St} : ∀ {l : List (Nat × Sh)} {x : denT l}, grabT S l = some x → l.map (fun p => (p.1, renV S (S.tm p.1))) = giveT l x
  | [], x, h => rfl
  | p :: l, x, h => by
    simp only [grabT] at h
    split at h
    · rename_i y hy
      split at h
      · rename_i z hz
        injection h with h; subst h
        rw [List.map_cons, grabT_give hz, grab_hd hy]; rfl
      · cases h
    · cases h
theorem grabI_give {S : St} : ∀ {l : List (Nat × BSh)} {x : denI l}, grabI S l = some x → l.map (fun p => (p.1, normB S p.1)) = giveI l x
  | [], x, h => rfl
  | p :: l, x, h => by
    simp only [grabI] at h
    split at h
    · rename_i y hy
      split at h
      · rename_i z hz
        injection h with h; subst h
        rw [List.map_cons, grabI_give hz, grabB_give hy]; rfl
      · cases h
    · cases h
/-- A loop: what it keeps, by shapes. -/
structure LSp where
  cv : List (Nat × Nat × Ty)
  ts : List (Nat × Sh)
  ids : List (Nat × BSh)
  tx : XT → List Nat
  ix : XT → List Nat
def LSp.keep (p : LSp) : Keep := ⟨p.cv, p.ts.map (·.1), p.ids.map (·.1), p.tx, p.ix⟩
abbrev LArg (p : LSp) := ∀ {R : Type}, (XT → St → Option R) → Nat → denT p.ts → denI p.ids → Option R
def ltab (p : LSp) (F : LArg p) (n : Nat) : LFun := fun S K => match grabT (convs p.cv S) p.ts with
  | some x => match grabI (convs p.cv S) p.ids with
    | some y => F K n x y
    | none => none
  | none => none
theorem ltab_zero {p : LSp} {F : LArg p} (h0 : ∀ {R : Type} (K : XT → St → Option R) x y, F K 0 x y = none) {R : Type} (S : St) (K : XT → St → Option R) : ltab p F 0 S K = none := by
  unfold ltab
  split
  · split
    · exact h0 _ _ _
    · rfl
  · rfl
theorem ltab_eq {E : Tbl} {LO : LTbl} {cx : Cx} {b : Code} {p : LSp} {F : LArg p} (h : ∀ {R : Type} (n : Nat) x y (K : XT → St → Option R), F K (n + 1) x y = loopStep E LO cx b p.keep (ltab p F n) (mkSt (giveT p.ts x) (giveI p.ids y)) K) : LoopEq E LO cx b p.keep (ltab p F) := by
  intro n S
  cases hx : grabT (convs p.cv S) p.ts with
  | none => exact .inr fun K => by unfold ltab; rw [hx]
  | some x =>
    cases hy : grabI (convs p.cv S) p.ids with
    | none => exact .inr fun K => by unfold ltab; rw [hx, hy]
    | some y =>
      refine .inl fun K => ?_
      have e : p.keep.head S = mkSt (giveT p.ts x) (giveI p.ids y) := by
        show norm (p.ts.map (·.1)) (p.ids.map (·.1)) (convs p.cv S) = _
        unfold norm
        rw [List.map_map, List.map_map]
        congr 1
        · exact grabT_give hx
        · exact grabI_give hy
      rw [e]
      have : ltab p F (n + 1) S K = F K (n + 1) x y := by unfold ltab; rw [hx, hy]
      rw [this]
      exact h n x y K
/-- A function's loops so far. -/
structure LoopsOK (P : Program) (glob : Nat → AV) (E : Tbl) (cx : Cx) (LO : LTbl) (g : List (Nat × Code)) : Prop where
  nat : NatL LO
  ok : ∀ en : Ent, en.P = P → en.cx = cx → Sound en glob E → ∀ p ∈ g, LoopOK en LO p.1 p.2
def sel (g : List (Nat × Code)) : List Nat → List (Nat × Code)
  | [] => []
  | i :: is => match g[i]? with
    | some p => p :: sel g is
    | none => sel g is
theorem sel_mem {g : List (Nat × Code)} : ∀ {is : List Nat} {p : Nat × Code}, p ∈ sel g is → p ∈ g
  | [], p, h => by cases h
  | i :: is, p, h => by
    simp only [sel] at h
    split at h
    · rename_i q hq
      rcases List.mem_cons.1 h with rfl | h
      · exact List.mem_of_getElem? hq
      · exact sel_mem h
    · exact sel_mem h
theorem LoopsOK.nil {P : Program} {glob : Nat → AV} {E : Tbl} {cx : Cx} : LoopsOK P glob E cx lnil [] := ⟨lnil_nat, fun _ _ _ _ p hp => by cases hp⟩
theorem LoopsOK.cons {P : Program} {glob : Nat → AV} {E : Tbl} {cx : Cx} {LO : LTbl} {g : List (Nat × Code)} (h : LoopsOK P glob E cx LO g) (hE : NatE E) {key : Nat} {b : Code} {p : LSp} {F : LArg p} (k : Nat) (is : List Nat)
    (hin : loopsOf b = sel g is) (hkey : g.all (fun q => !Nat.beq q.1 key) = true) (h0 : ∀ {R : Type} (K : XT → St → Option R) x y, F K 0 x y = none)
    (hs : ∀ {R : Type} (n : Nat) x y (K : XT → St → Option R), F K (n + 1) x y = loopStep E LO cx b p.keep (ltab p F n) (mkSt (giveT p.ts x) (giveI p.ids y)) K) :
    LoopsOK P glob E cx (lcons key (ltab p F k) LO) ((key, b) :: g) := by
  refine ⟨lcons_nat (loop_nat hE h.nat (ltab_zero h0) (ltab_eq hs) k) h.nat, fun en e1 e2 hS q hq => ?_⟩
  rcases List.mem_cons.1 hq with rfl | hq
  · refine lcons_ok fun S K r D B a w Q hF he hQ => ⟨k, loop_sound hS (fun p hp => h.ok en e1 e2 hS p (sel_mem (by rw [← hin]; exact hp))) (ltab_zero h0) (by rw [e2]; exact ltab_eq hs) k S K r D B a w Q hF he hQ⟩
  · refine lcons_skip ?_ (h.ok en e1 e2 hS q hq)
    have := List.all_eq_true.1 hkey q hq
    simpa using this
theorem fun_ok {P : Program} {glob : Nat → AV} {E : Tbl} {LO : LTbl} {cx : Cx} {n : Nat} {fn : Func} {ss : Sh} {F : FArg ss} {g : List (Nat × Code)} (hcall : callable P n = true) (hS : SoundP P glob cx E) (hP : P.funcs[n]? = some fn) (hN : cx.N = fn.ntmps)
    (hL : LoopsOK P glob E cx LO g) (is : List Nat) (hb : (match fn.body with
      | some c => loopsOf c
      | none => []) = sel g is) (hf : ∀ {R : Type} (x : ss.den) (K : List Res → Option R), F x K = evFun E LO cx fn (give ss x) K) : SoundF P glob n (ftab ss F) :=
  fun_sound hcall hS hP hN (fun en e1 e2 hSen c hc p hp => hL.ok en e1 e2 hSen p (sel_mem (by rw [← hb, hc]; exact hp))) hL.nat (ftab_eq hf)
theorem rec_ok {P : Program} {glob : Nat → AV} {E : Tbl} {cx : Cx} {n : Nat} {fn : Func} {ss : Sh} {F : Nat → FArg ss} (hcall : callable P n = true) (hS : SoundP P glob cx E) (hP : P.funcs[n]? = some fn) (hN : cx.N = fn.ntmps)
    (hb : (match fn.body with
      | some c => loopsOf c
      | none => []) = []) (h0 : ∀ {R : Type} (x : ss.den) (K : List Res → Option R), F 0 x K = none)
    (hf : ∀ {R : Type} (d : Nat) (x : ss.den) (K : List Res → Option R), F (d + 1) x K = evFun (tcons n (ftab ss (F d)) E) lnil cx fn (give ss x) K) : ∀ d, SoundF P glob n (ftab ss (F d)) :=
  rec_sound (f := fun d => ftab ss (F d)) (LO := fun _ => lnil) hcall hS hP hN (fun d en e1 e2 hSen c hc p hp => by
      have hb' : loopsOf c = [] := by rw [hc] at hb; exact hb
      rw [hb'] at hp; cases hp) (fun _ _ => lnil_nat) (fun {R} args K => by
      cases hg : grab ss args with
      | none => exact ftab_none hg K
      | some x => exact (ftab_some hg K).trans (h0 x K)) (fun d => ftab_eq (hf d))
end Go.Ev
/- Rows, part 3: a package variable that is laid reads as a typed value. -/
set_option linter.unusedSectionVars false
set_option linter.unusedVariables false
namespace Go.Ev
open Go Go.RowKit
def datumF {H : Type} : (T : Ty) → T.den → List (DataW H)
  | .int k, (x : Int) => [.lit (.int k x)]
  | .bool, (x : Bool) => [.lit (.bool x)]
  | .str, (x : ByteArray) => [.lit (.string x.data.toList)]
  | .pair a b, x => datumF a x.1 ++ datumF b x.2
  | .st a, x => [.agg (datumF a x)]
  | .arr _ a, xs => [.agg (List.flatMap (datumF a) xs)]
  | .sl _, _ => [.nil]
def Ty.nf : Ty → Nat
  | .pair a b => a.nf + b.nf
  | _ => 1
section
variable {H : Type}
theorem datumF_len : ∀ {T : Ty} (x : T.den), (datumF (H := H) T x).length = T.nf
  | .int _, _ => rfl
  | .bool, _ => rfl
  | .str, _ => rfl
  | .pair a b, x => by
    show (datumF a x.1 ++ datumF b x.2).length = a.nf + b.nf
    rw [List.length_append, datumF_len, datumF_len]
  | .st _, _ => rfl
  | .arr _ _, _ => rfl
  | .sl _, _ => rfl
theorem nf_pos : ∀ T : Ty, 0 < T.nf
  | .int _ => Nat.one_pos
  | .bool => Nat.one_pos
  | .str => Nat.one_pos
  | .pair a b => Nat.add_pos_left (nf_pos a) _
  | .st _ => Nat.one_pos
  | .arr _ _ => Nat.one_pos
  | .sl _ => Nat.one_pos
theorem flatMap_inj {α β : Type} {f : α → List β} {n : Nat} (hn : 0 < n) (hl : ∀ x, (f x).length = n) (hi : ∀ x y, f x = f y → x = y) : ∀ {l r : List α}, l.flatMap f = r.flatMap f → l = r
  | [], [], _ => rfl
  | [], y :: r, h => by
    have := congrArg List.length h
    rw [List.flatMap_cons, List.length_append, hl] at this
    simp at this
    omega
  | x :: l, [], h => by
    have := congrArg List.length h
    rw [List.flatMap_cons, List.length_append, hl] at this
    simp at this
    omega
  | x :: l, y :: r, h => by
    rw [List.flatMap_cons, List.flatMap_cons] at h
    obtain ⟨h1, h2⟩ := List.append_inj h (by rw [hl, hl])
    rw [hi _ _ h1, flatMap_inj hn hl hi h2]
theorem datumF_inj : ∀ {T : Ty} (x y : T.den), T.hasSl = false → datumF (H := H) T x = datumF T y → x = y
  | .int k, x, y, _, h => by
    injection h with h; injection h with h; injection h
  | .bool, x, y, _, h => by
    injection h with h; injection h with h; injection h
  | .str, x, y, _, h => by
    injection h with h; injection h with h; injection h with h
    have : x.data = y.data := Array.ext' h
    exact (ByteArray.ext this : x = y)
  | .pair a b, x, y, hs, h => by
    simp only [Ty.hasSl, Bool.or_eq_false_iff] at hs
    obtain ⟨h1, h2⟩ := List.append_inj (show datumF a x.1 ++ datumF b x.2 = datumF a y.1 ++ datumF b y.2 from h) (by rw [datumF_len, datumF_len])
    exact Prod.ext (datumF_inj _ _ hs.1 h1) (datumF_inj _ _ hs.2 h2)
  | .st a, x, y, hs, h => by
    injection h with h; injection h with h
    exact datumF_inj (T := a) _ _ hs h
  | .arr n a, x, y, hs, h => by
    injection h with h; injection h with h
    exact flatMap_inj (nf_pos a) datumF_len (fun p q hpq => datumF_inj (T := a) p q hs hpq) h
  | .sl a, x, y, hs, h => by cases hs
theorem flatMap_one {α β γ : Type} {f : α → List β} {g : γ → β} : ∀ {l : List α} {r : List γ}, l.length = r.length → (∀ (i : Nat) (x : α), l[i]? = some x → ∃ y, r[i]? = some y ∧ f x = [g y]) → l.flatMap f = r.map g
  | [], [], _, _ => rfl
  | [], _ :: _, h, _ => by cases h
  | _ :: _, [], h, _ => by cases h
  | x :: l, y :: r, h, hf => by
    obtain ⟨y', h1, h2⟩ := hf 0 x rfl
    injection h1 with h1; subst h1
    rw [List.flatMap_cons, h2, List.map_cons, flatMap_one (by simpa using h) (fun i x hx => by simpa using hf (i + 1) x (by simpa using hx))]
    rfl
variable {enc : TypeId × Value → H} {P : Program} {W : World} {A : Nat → Prop} {sp : Nat → Bool} {held : Bool} {base : Nat}
theorem fs_flat {fuel n : Nat} (ih : ∀ {T : Ty} {t : Nat} {cs : List Value} {d : DataW H} {ps : List MemPlace}, T.hasSl = false → TyF P T t → DataW.trod enc P W base sp held fuel t cs = some (d, ps) → ∃ x : T.den, Rep W A T x cs ∧ datumF T x = [d]) {cs : List Value} :
    ∀ {T : Ty} {gs : List Field} {ys : List (DataW H × List MemPlace)} {o : Nat}, T.hasSl = false → fsB (tyB P n) T gs o = true → ys.length = gs.length → (∀ (i : Nat) (g : Field), gs[i]? = some g → DataW.trod enc P W base sp held fuel g.type ((cs.drop g.offset).take (P.cellsOf g.type)) = ys[i]?) → ∃ x : T.den, Rep W A T x ((cs.drop o).take T.size) ∧ datumF T x = ys.map (·.1) := by
  have last : ∀ {T : Ty} {g : Field} {y : DataW H × List MemPlace} {o : Nat}, T.hasSl = false → g.offset = o → TyF P T g.type → DataW.trod enc P W base sp held fuel g.type ((cs.drop g.offset).take (P.cellsOf g.type)) = some y → ∃ x : T.den, Rep W A T x ((cs.drop o).take T.size) ∧ datumF T x = [y.1] := by
    rintro T g ⟨d, q⟩ o hs rfl hT hy
    obtain ⟨x, h1, h2⟩ := ih hs hT hy
    rw [hT.cells.1] at h1
    exact ⟨x, h1, h2⟩
  intro T
  induction T with
  | pair a b iha ihb =>
    intro gs ys o hs hfs hl hall
    cases gs with
    | nil => cases hfs
    | cons g gs =>
      cases ys with
      | nil => cases hl
      | cons y ys =>
        simp only [fsB, Bool.and_eq_true] at hfs
        simp only [Ty.hasSl, Bool.or_eq_false_iff] at hs
        obtain ⟨⟨⟨h1, _⟩, h2⟩, h3⟩ := hfs
        have e1 := Nat.eq_of_beq_eq_true h1
        obtain ⟨x, hx1, hx2⟩ := last (T := a) hs.1 e1 ⟨n, h2⟩ (hall 0 g rfl)
        obtain ⟨z, hy1, hy2⟩ := ihb hs.2 h3 (by simpa using hl) (fun i g' hg' => by simpa using hall (i + 1) g' (by simpa using hg'))
        refine ⟨(x, z), ⟨_, _, ?_, hx1, hy1⟩, ?_⟩
        · show (cs.drop o).take (a.size + b.size) = _
          rw [List.take_add, List.drop_drop]
        · show datumF a x ++ datumF b z = _
          rw [hx2, hy2]; rfl
  | _ =>
    intro gs ys o hs hfs hl hall
    cases gs with
    | nil => cases hfs
    | cons g gs =>
      cases ys with
      | nil => cases hl
      | cons y ys =>
        simp only [fsB, Bool.and_eq_true] at hfs
        obtain ⟨⟨h1, h2⟩, h3⟩ := hfs
        have hgs : gs = [] := by cases gs with
          | nil => rfl
          | cons _ _ => simp at h3
        subst hgs
        have hys : ys = [] := by cases ys with
          | nil => rfl
          | cons _ _ => simp at hl
        subst hys
        exact last hs (Nat.eq_of_beq_eq_true h1) ⟨n, h2⟩ (hall 0 g rfl)
theorem trod_flat : ∀ (fuel : Nat) {T : Ty} {t : Nat} {cs : List Value} {d : DataW H} {ps : List MemPlace}, T.hasSl = false → TyF P T t → DataW.trod enc P W base sp held fuel t cs = some (d, ps) → ∃ x : T.den, Rep W A T x cs ∧ datumF T x = [d] := by
  intro fuel
  induction fuel with
  | zero => intro T t cs d ps _ hT h; simp [DataW.trod] at h
  | succ fuel ih =>
    intro T t cs d ps hs hT h
    cases T with
    | int k =>
      obtain ⟨n, rfl, hx, _⟩ := DataW.trod_int hT.int h
      injection hx with hx; subst hx
      exact ⟨n, rfl, rfl⟩
    | bool =>
      obtain ⟨b, rfl, hx⟩ := DataW.trod_bool hT.bool h
      injection hx with hx; subst hx
      exact ⟨b, rfl, rfl⟩
    | str =>
      obtain ⟨s, rfl, hx, _⟩ := DataW.trod_string hT.str h
      injection hx with hx; subst hx
      exact ⟨s, rfl, rfl⟩
    | pair a b => have := hT.isPair; cases this
    | sl a => cases hs
    | arr n a =>
      obtain ⟨e, he, hE, _⟩ := hT.arr
      obtain ⟨hc, _⟩ := hE.cells
      obtain ⟨xs, m, hf, hx, hl, hlen, hall⟩ := DataW.trod_array he h
      injection hf with hf; subst hf
      injection hx with hx _; subst hx
      obtain ⟨ys, hy1, hy2⟩ := rows_build (fun i (y : DataW H × List MemPlace) (x : a.den) => Rep W A a x ((cs.drop (i * P.cellsOf e)).take (P.cellsOf e)) ∧ datumF a x = [y.1]) n (fun i => xs[i]?) (fun i hi => by
        have h2 : xs[i]? = some (xs[i]'(by omega)) := List.getElem?_eq_getElem (by omega)
        obtain ⟨x, g1⟩ := ih (T := a) (d := (xs[i]'(by omega)).1) (ps := (xs[i]'(by omega)).2) hs hE ((hall i hi).trans h2)
        exact ⟨_, h2, x, g1⟩)
      refine ⟨ys, ⟨hy1, ?_, fun i x hx => ?_⟩, ?_⟩
      · rw [hl, hT.cells.1]; rfl
      · obtain ⟨y, _, g1, _⟩ := hy2 i x hx
        rw [hc] at g1
        exact g1
      · show [DataW.agg (List.flatMap (datumF a) ys)] = _
        rw [flatMap_one (g := fun (y : DataW H × List MemPlace) => y.1) (r := xs) (by omega) (fun i x hx => by
          obtain ⟨y, g0, _, g1⟩ := hy2 i x hx
          exact ⟨y, g0, g1⟩)]
    | st a =>
      obtain ⟨n, fs, hfs, hB⟩ := hT.fields
      obtain ⟨xs, n', hf, hx, hl, hlen, hall⟩ := DataW.trod_struct hfs h
      injection hf with hf; subst hf
      injection hx with hx _; subst hx
      obtain ⟨x, h1, h2⟩ := fs_flat (T := a) (gs := fs.toList) (ys := xs) (o := 0) ih hs hB (by rw [hlen]; simp) (fun i g hg => hall i g (by simpa using hg))
      refine ⟨x, ?_, ?_⟩
      · have e1 : (cs.drop 0).take a.size = cs := by
          rw [List.drop_zero]
          apply List.take_of_length_le
          rw [hl, hT.cells.1]
          exact Nat.le_refl _
        rw [e1] at h1
        exact h1
      · show [DataW.agg (datumF a x)] = _
        rw [h2]
end
theorem laidVars_mem {P : Program} {W : World} : ∀ {l : List (String × DataW Unit)} {ps : List MemPlace}, DataW.LaidVars P W l ps → ∀ (i : Nat) (n : String) (d : DataW Unit), l[i]? = some (n, d) → ∃ g t cs fuel p, P.globalNamed n = some g ∧ (P.globals[g]?).map (·.type) = some t ∧ W.var? P n = some cs ∧ DataW.trod (fun _ => ()) P W 0 (fun _ => true) false fuel t cs.toList = some (d, p)
  | [], _, _, i, n, d, hn => by simp at hn
  | (m, e) :: l, ps, h, 0, n, d, hn => by
    obtain ⟨g, t, cs, fuel, p, q, h1, h2, h3, h4, _, _⟩ := h
    injection hn with hn; injection hn with hn hd; subst hn; subst hd
    exact ⟨g, t, cs, fuel, p, h1, h2, h3, h4⟩
  | (m, e) :: l, ps, h, i + 1, n, d, hn => by
    obtain ⟨g, t, cs, fuel, p, q, h1, h2, h3, h4, h5, _⟩ := h
    exact laidVars_mem h5 i n d (by simpa using hn)
theorem glob_at {P : Program} {W : World} {T : Ty} {t : Nat} (hT : TyF P T t) (hs : T.hasSl = false) {laid : List (String × DataW Unit)} (h : laidMet P laid W) {n : String} {g : Nat} {d : DataW Unit} (hg : P.globalNamed n = some g) (ht : (P.globals[g]?).map (·.type) = some t) {i : Nat} (hi : laid[i]? = some (n, d)) {x : T.den} (hx : datumF T x = [d]) :
    g < W.heap.size ∧ ∀ A : Nat → Prop, A g → At W A ⟨g, 0, none⟩ T x := by
  obtain ⟨ps, h, _, _⟩ := h
  obtain ⟨g', t', cs, fuel, p, h1, h2, h3, h4⟩ := laidVars_mem h i n d hi
  rw [hg] at h1; injection h1 with h1; subst h1
  rw [ht] at h2; injection h2 with h2; subst h2
  refine ⟨?_, fun A hA => ?_⟩
  · simp only [World.var?, hg, Option.bind_some] at h3
    rcases Nat.lt_or_ge g W.heap.size with h5 | h5
    · exact h5
    · rw [Array.getElem?_eq_none h5] at h3; cases h3
  · obtain ⟨y, h5, h6⟩ := trod_flat (A := A) fuel hs hT h4
    have : y = x := datumF_inj _ _ hs (h6.trans hx.symm)
    subst this
    refine ⟨cs.toList, rfl, hA, h5, fun j u hu => ?_⟩
    have := World.var?_cell hg h3 j
    rw [Nat.zero_add, this]
    simpa using hu
theorem nums_cells {w : World} {A : Nat → Prop} {k : IntKind} : ∀ {n : Nat} {xs : List Int} {cs : List Value}, Rep w A (.arr n (.int k)) xs cs → cs = xs.map (Value.int k) := by
  intro n xs cs h
  obtain ⟨h1, h2, h3⟩ := h
  have h1 : xs.length = n := h1
  have h2 : cs.length = n := by rw [h2]; show n * 1 = n; omega
  apply List.ext_getElem?
  intro i
  rcases Nat.lt_or_ge i n with hi | hi
  · have e1 : xs[i]? = some (xs[i]'(by omega)) := List.getElem?_eq_getElem (by omega)
    have h4 : seg cs i 1 = [.int k (xs[i]'(by omega))] := h3 i _ e1
    have e2 : (seg cs i 1)[0]? = cs[i]? := by
      unfold seg
      rw [List.getElem?_take, if_pos (by omega), List.getElem?_drop, Nat.mul_one, Nat.add_zero]
    rw [← e2, h4, List.getElem?_map, e1]; rfl
  · rw [List.getElem?_eq_none (by omega), List.getElem?_eq_none (by simp; omega)]
theorem glob_tab {P : Program} {W : World} {k : IntKind} {m t : Nat} (hT : TyF P (.arr m (.int k)) t) {laid : List (String × DataW Unit)} (h : laidMet P laid W) {n : String} {g : Nat} {d : DataW Unit} (hg : P.globalNamed n = some g) (ht : (P.globals[g]?).map (·.type) = some t) {i : Nat} (hi : laid[i]? = some (n, d)) {x : List Int} (hx : datumF (.arr m (.int k)) x = [d]) :
    g < W.heap.size ∧ ∀ A : Nat → Prop, A g → ∃ (p : Addr) (t : Nat) (fr : Nat × Nat), (Value.pointer (some ⟨g, 0, none⟩)) = .pointer (some p) ∧ p.off = 0 ∧ p.spot = none ∧ A p.block ∧ W.heap[p.block]? = some (.cells (x.map (Value.int k)).toArray t fr) := by
  obtain ⟨ps, h, _, _⟩ := h
  obtain ⟨g', t', cs, fuel, p, h1, h2, h3, h4⟩ := laidVars_mem h i n d hi
  rw [hg] at h1; injection h1 with h1; subst h1
  rw [ht] at h2; injection h2 with h2; subst h2
  have hv := h3
  simp only [World.var?, hg, Option.bind_some] at h3
  split at h3
  · rename_i cs' t' fr heq
    injection h3 with h3
    subst h3
    refine ⟨?_, fun A hA => ?_⟩
    · exact (Array.getElem?_eq_some_iff.1 heq).1
    · obtain ⟨y, h5, h6⟩ := trod_flat (A := A) fuel rfl hT h4
      have : y = x := datumF_inj _ _ rfl (h6.trans hx.symm)
      subst this
      have hcs := nums_cells h5
      have : cs' = (List.map (Value.int k) y).toArray := by rw [← hcs]
      exact ⟨⟨g, 0, none⟩, t', fr, rfl, rfl, rfl, hA, by rw [heq, this]⟩
  · cases h3
end Go.Ev
namespace Go.Ev
open Go Go.RowKit
theorem trodVars_split {H : Type} {enc : TypeId × Value → H} {P : Program} {W : World} {sp : Nat → Bool} {n : String} {ns : List String} {gs : List (DataW H)} {ps : List MemPlace} (h : DataW.TrodVars enc P W sp (n :: ns) gs ps) : ∃ g gs' q, gs = g :: gs' ∧ DataW.TrodVars enc P W sp ns gs' q := by
  cases gs with
  | nil => exact h.elim
  | cons g gs =>
    obtain ⟨_, _, _, _, p, q, _, _, _, _, h5, _⟩ := h
    exact ⟨g, gs, q, rfl, h5⟩
end Go.Ev
/- The evaluator's soundness: functions that write what they are handed. -/
set_option linter.unusedSectionVars false
set_option linter.unusedVariables false
namespace Go.Ev
open Go Go.RowKit
def startI (m : Nat) : Nat → List AV → Nat → St → Option (List AV × St)
  | _, [], _, S => some ([], S)
  | j, a :: as, n, S => bif Nat.testBit m j then
      (match a with
      | .val T x => bif T.flatIn then (match adopt T x n S with
        | some (l, n', S') => (startI m (j + 1) as n' S').map fun p => (aggOf T l :: p.1, p.2)
        | none => none) else none
      | _ => none)
    else (startI m (j + 1) as n S).map fun p => (a :: p.1, p.2)
def readI (S : St) (m : Nat) : Nat → List AV → List AV → Option (List Res)
  | _, [], [] => some []
  | j, a :: as, v :: vs => bif Nat.testBit m j then
      (match a with
      | .val T _ => match S.toVal T v, readI S m (j + 1) as vs with
        | some y, some r => some (⟨T, y, false⟩ :: r)
        | _, _ => none
      | _ => none)
    else readI S m (j + 1) as vs
  | _, _, _ => none
def evFunI (E : Tbl) (LO : LTbl) (cx : Cx) (fn : Func) (m : Nat) (args : List AV) {R : Type} (K : List Res → Option R) : Option R := match fn.body with
  | some c => bif Nat.ble args.length cx.N && cx.wk then
      (match startI m 0 args 3000000 (start []) with
      | some (vs, S0) => evCode E LO cx c { tm := fun t => vs.getD t .bot, hp := S0.hp } fun e S => match e with
        | .exit _ => none
        | _ => match finish cx fn S, readI S m 0 args vs with
          | some rets, some l => K (l ++ rets)
          | _, _ => none
      | none => none)
    else none
  | none => none
/-- What is read back in the end. -/
def ReadsAs (w' : World) (D' : Nat → Value) (B' : Nat → Option Nat) (S' : St) (n n' : Nat) (Sf : St) (Df : Nat → Value) (Bf : Nat → Option Nat) : Prop :=
  ∀ i, n ≤ i → i < n' → ∀ el xs, (Sf.hp i).ver = (S'.hp i).ver → (Sf.hp i).blk = some (.row el xs) → Df i = D' i ∧ Bf i = B' i ∧ ∃ A, RowRep w' A (Df i) el xs (Bf i)
theorem row_flat {w : World} {A : Nat → Prop} {v : Value} {T : Ty} {xs : List T.den} {bk : Option Nat} (hT : T.hasSl = false) (h : RowRep w A v T xs bk) : RowRep w (fun _ => False) v T xs bk := by
  obtain ⟨ad, c, g1, g2, g3⟩ := h
  refine ⟨ad, c, g1, g2, ?_⟩
  rcases g3 with g3 | ⟨k, cells, e, k1, k2, k3, k4, k5⟩
  · exact .inl g3
  · exact .inr ⟨k, cells, e, k1, k2, k3, k4, fun i x hi => Rep_flat hT (k5 i x hi)⟩
theorem adoptO_spec {w : World} : ∀ {T : Ty} {x : T.den} {n : Nat} {S : St} {l : List AV} {n' : Nat} {S' : St} {cs : List Value} {bs : List (Option Nat)} (D : Nat → Value) (B : Nat → Option Nat), T.flatIn = true → adopt T x n S = some (l, n', S') → OwnO w T x cs bs →
    ∃ D' B', Took w S S' D D' B B' n n' (blocks bs) ∧ (∀ i, n ≤ i → i < n' → (S'.hp i).ver = (S.hp i).ver + 1) ∧ (∀ m, Holds w S' D' n n' m → AVReps m l cs) ∧
      ∀ w' Sf Df Bf (y : T.den) rest rest', ReadsAs w' D' B' S' n n' Sf Df Bf → St.implode Sf T (l ++ rest) = some (y, rest') → rest' = rest ∧ OwnO w' T y cs bs
  | .int k, x, n, S, l, n', S', cs, bs, D, B, hT, h, ho => by
    injection h with h; injection h with h1 h; injection h with h2 h3; subst h1; subst h2; subst h3
    obtain ⟨hr, rfl⟩ := ho
    refine ⟨D, B, Took.none_, fun i h1 h2 => by omega, fun m hm => explode_rep (T := .int k) (Rep_flat rfl hr), fun w' Sf Df Bf y rest rest' _ hi => ?_⟩
    have hi : (St.cell1 Sf (.int k) (.val (.int k) x)).map (fun x => (x, rest)) = some (y, rest') := hi
    have e : St.cell1 Sf (.int k) (.val (.int k) x) = some x := by show asTy (.int k) x = _; unfold asTy; rw [dif_pos rfl]; rfl
    rw [e] at hi
    injection hi with hi; injection hi with e1 e2; subst e1; subst e2
    exact ⟨rfl, Rep_flat rfl hr, rfl⟩
  | .bool, x, n, S, l, n', S', cs, bs, D, B, hT, h, ho => by
    injection h with h; injection h with h1 h; injection h with h2 h3; subst h1; subst h2; subst h3
    obtain ⟨hr, rfl⟩ := ho
    refine ⟨D, B, Took.none_, fun i h1 h2 => by omega, fun m hm => explode_rep (T := .bool) (Rep_flat rfl hr), fun w' Sf Df Bf y rest rest' _ hi => ?_⟩
    have hi : (St.cell1 Sf .bool (.val .bool x)).map (fun x => (x, rest)) = some (y, rest') := hi
    have e : St.cell1 Sf .bool (.val .bool x) = some x := by show asTy .bool x = _; unfold asTy; rw [dif_pos rfl]; rfl
    rw [e] at hi
    injection hi with hi; injection hi with e1 e2; subst e1; subst e2
    exact ⟨rfl, Rep_flat rfl hr, rfl⟩
  | .str, x, n, S, l, n', S', cs, bs, D, B, hT, h, ho => by
    injection h with h; injection h with h1 h; injection h with h2 h3; subst h1; subst h2; subst h3
    obtain ⟨hr, rfl⟩ := ho
    refine ⟨D, B, Took.none_, fun i h1 h2 => by omega, fun m hm => explode_rep (T := .str) (Rep_flat rfl hr), fun w' Sf Df Bf y rest rest' _ hi => ?_⟩
    have hi : (St.cell1 Sf .str (.val .str x)).map (fun x => (x, rest)) = some (y, rest') := hi
    have e : St.cell1 Sf .str (.val .str x) = some x := by show asTy .str x = _; unfold asTy; rw [dif_pos rfl]; rfl
    rw [e] at hi
    injection hi with hi; injection hi with e1 e2; subst e1; subst e2
    exact ⟨rfl, Rep_flat rfl hr, rfl⟩
  | .arr k a, x, n, S, l, n', S', cs, bs, D, B, hT, h, ho => by cases hT
  | .st a, x, n, S, l, n', S', cs, bs, D, B, hT, h, ho => adoptO_spec (T := a) D B hT h ho
  | .sl el, xs, n, S, l, n', S', cs, bs, D, B, hT, h, ho => by
    simp only [adopt] at h
    cases hf : S.free n with
    | false => rw [hf] at h; cases h
    | true =>
      rw [hf] at h
      injection h with h; injection h with h1 h; injection h with h2 h3; subst h1; subst h2; subst h3
      obtain ⟨v, bk, rfl, hr, rfl⟩ := ho
      have hel : el.hasSl = false := by simpa [Ty.flatIn] using hT
      have hhp : (S.fresh n (.row el xs)).hp n = ⟨(S.hp n).ver + 1, some (.row el xs)⟩ := by unfold St.fresh; rw [set_hp, if_pos rfl]
      refine ⟨upd D n v, upd B n bk, ⟨Nat.le_succ _, rfl, fun i hi => ⟨?_, upd_ne _ _ (by omega), upd_ne _ _ (by omega)⟩, fun i g1 g2 => ?_, fun _ i j k g1 g2 g3 g4 _ _ => by omega⟩, fun i g1 g2 => ?_, fun m hm => ?_, fun w' Sf Df Bf y rest rest' hR hi => ?_⟩
      · unfold St.fresh; rw [set_hp, if_neg (by omega)]
      · have : i = n := by omega
        subst this
        refine ⟨by rw [hhp]; exact Nat.lt_succ_self _, el, xs, by rw [hhp], by rw [upd_at, upd_at]; exact hr, fun k hk => ?_⟩
        rw [upd_at] at hk
        rw [hk]; simp [blocks]
      · have : i = n := by omega
        subst this
        rw [hhp]
      · obtain ⟨e1, e2⟩ := hm.2 n (Nat.le_refl _) (Nat.lt_succ_self _)
        obtain ⟨ad, c, hv, _⟩ := hr
        refine ⟨v, [], rfl, ⟨⟨_, _, _, hv⟩, by rw [e1, hhp]; exact Nat.le_refl _, fun U ys _ _ => ?_⟩, rfl⟩
        rw [e2, upd_at]
      · have hi : (St.cell1 Sf (.sl el) (.own n ((S.hp n).ver + 1))).map (fun x => (x, rest)) = some (y, rest') := hi
        simp only [Option.map_eq_some_iff] at hi
        obtain ⟨z, hz, e⟩ := hi
        injection e with e1 e2; subst e1; subst e2
        refine ⟨rfl, ?_⟩
        have hz : Sf.row? el n ((S.hp n).ver + 1) = some z := hz
        unfold St.row? at hz
        split at hz
        · rename_i U ys hbk
          split at hz
          · rename_i e
            subst e
            injection hz with hz
            have hz : ys = z := hz
            subst hz
            obtain ⟨q1, q2⟩ := blk?_some hbk
            obtain ⟨p1, p2, A, p3⟩ := hR n (Nat.le_refl _) (Nat.lt_succ_self _) U ys (by rw [q1, hhp]) q2
            rw [p1, p2, upd_at, upd_at] at p3
            exact ⟨v, bk, rfl, row_flat hel p3, rfl⟩
          · cases hz
        · cases hz
  | .pair a b, x, n, S, l, n', S', cs, bs, D, B, hT, h, ho => by
    simp only [Ty.flatIn, Bool.and_eq_true] at hT
    simp only [adopt] at h
    split at h
    · rename_i l1 n1 S1 h1
      split at h
      · rename_i l2 n2 S2 h2
        injection h with h; injection h with e1 h; injection h with e2 e3; subst e1; subst e2; subst e3
        obtain ⟨c0, c1, b0, b1, rfl, rfl, o1, o2⟩ := ho
        obtain ⟨D1, B1, t1, v1, r1, q1⟩ := adoptO_spec D B hT.1 h1 o1
        obtain ⟨D2, B2, t2, v2, r2, q2⟩ := adoptO_spec D1 B1 hT.2 h2 o2
        have hle1 := t1.le
        have hle2 := t2.le
        refine ⟨D2, B2, by rw [blocks_app]; exact t1.trans t2, fun i g1 g2 => ?_, fun m hm => AVReps_append (r1 m ⟨hm.1, fun i g1 g2 => ?_⟩) (r2 m ⟨hm.1, fun i g1 g2 => hm.2 i (Nat.le_trans t1.le g1) g2⟩), fun w' Sf Df Bf y rest rest' hR hi => ?_⟩
        · rcases Nat.lt_or_ge i n1 with g | g
          · rw [(t2.out i (.inl g)).1]; exact v1 i g1 g
          · rw [v2 i g g2, (t1.out i (.inr g)).1]
        · obtain ⟨e1, e2⟩ := hm.2 i g1 (Nat.lt_of_lt_of_le g2 t2.le)
          obtain ⟨f1, f2, _⟩ := t2.out i (.inl g2)
          exact ⟨e1.trans f1, e2.trans f2⟩
        · simp only [St.implode] at hi
          rw [List.append_assoc] at hi
          split at hi
          · rename_i ya ra hia
            split at hi
            · rename_i yb rb hib
              injection hi with hi; injection hi with e1 e2; subst e1; subst e2
              obtain ⟨k1, k2⟩ := q1 w' Sf Df Bf ya _ ra (fun i g1 g2 el xs g3 g4 => by
                obtain ⟨f1, f2, f3⟩ := t2.out i (.inl g2)
                obtain ⟨p1, p2, p3⟩ := hR i g1 (by omega) el xs (by rw [g3, f1]) g4
                exact ⟨p1.trans f2, p2.trans f3, p3⟩) hia
              subst k1
              obtain ⟨k3, k4⟩ := q2 w' Sf Df Bf yb _ rb (fun i g1 g2 el xs g3 g4 => hR i (by omega) g2 el xs g3 g4) hib
              exact ⟨k3, c0, c1, b0, b1, rfl, rfl, k2, k4⟩
            · cases hi
          · cases hi
      · cases h
    · cases h
theorem OwnO_one {w : World} : ∀ {T : Ty} {x : T.den} {cs : List Value} {bs : List (Option Nat)}, OwnO w T x cs bs → T.flatIn = true → ∀ u ∈ cs, u.oneCell' = true
  | .pair a b, x, cs, bs, h, hT, u, hu => by
    simp only [Ty.flatIn, Bool.and_eq_true] at hT
    obtain ⟨c0, c1, b0, b1, rfl, rfl, h0, h1⟩ := h
    rcases List.mem_append.1 hu with hu | hu
    · exact OwnO_one h0 hT.1 u hu
    · exact OwnO_one h1 hT.2 u hu
  | .st a, x, cs, bs, h, hT, u, hu => OwnO_one (T := a) h hT u hu
  | .sl a, xs, cs, bs, h, hT, u, hu => by
    obtain ⟨v, bk, rfl, ⟨ad, c, e, _⟩, _⟩ := h
    rw [List.mem_singleton.1 hu, e]; rfl
  | .int k, x, cs, bs, h, hT, u, hu => by
    have : cs = [.int k x] := h.1
    rw [this] at hu; rw [List.mem_singleton.1 hu]; rfl
  | .bool, x, cs, bs, h, hT, u, hu => by
    have : cs = [.bool x] := h.1
    rw [this] at hu; rw [List.mem_singleton.1 hu]; rfl
  | .str, x, cs, bs, h, hT, u, hu => by
    have : cs = [.string x] := h.1
    rw [this] at hu; rw [List.mem_singleton.1 hu]; rfl
  | .arr n a, x, cs, bs, h, hT, u, hu => by cases hT
theorem toVal_adopt {T : Ty} {x y : T.den} {n n' : Nat} {S S' Sf : St} {l : List AV} (hT : T.flatIn = true) (hp : T.isPair = false) (h : adopt T x n S = some (l, n', S')) (hy : Sf.toVal T (aggOf T l) = some y) : Sf.implode T (l ++ []) = some (y, []) := by
  rw [List.append_nil]
  cases T with
  | pair a b => cases hp
  | arr k a => cases hT
  | st a =>
    have hy : (match Sf.implode a l with
      | some (x, []) => some x
      | _ => none) = some y := hy
    show Sf.implode a l = some (y, [])
    split at hy
    · rename_i x' hi
      injection hy with hy
      subst hy
      exact hi
    · cases hy
  | int k =>
    injection h with h; injection h with h1 h; subst h1
    have hy : asTy (.int k) x = some y := hy
    show (asTy (.int k) x).map (fun x => (x, ([] : List AV))) = _
    rw [hy]; rfl
  | bool =>
    injection h with h; injection h with h1 h; subst h1
    have hy : asTy .bool x = some y := hy
    show (asTy .bool x).map (fun x => (x, ([] : List AV))) = _
    rw [hy]; rfl
  | str =>
    injection h with h; injection h with h1 h; subst h1
    have hy : asTy .str x = some y := hy
    show (asTy .str x).map (fun x => (x, ([] : List AV))) = _
    rw [hy]; rfl
  | sl a =>
    simp only [adopt] at h
    cases hf : S.free n with
    | false => rw [hf] at h; cases h
    | true =>
      rw [hf] at h
      injection h with h; injection h with h1 h; subst h1
      have hy : St.cell1 Sf (.sl a) (.own n ((S.hp n).ver + 1)) = some y := hy
      show (St.cell1 Sf (.sl a) (.own n ((S.hp n).ver + 1))).map (fun x => (x, ([] : List AV))) = _
      rw [hy]; rfl
theorem size_one {T : Ty} (hT : T.flatIn = true) (hp : T.isPair = false) (h : T.isAgg = false) : T.size = 1 := by
  cases T <;> first | rfl | (cases h; done) | (cases hp; done) | (cases hT; done)
theorem ReadsAs.sub {w' : World} {D1 D2 : Nat → Value} {B1 B2 : Nat → Option Nat} {S1 S2 : St} {n n1 n2 : Nat} {Sf : St} {Df : Nat → Value} {Bf : Nat → Option Nat} (h : ReadsAs w' D2 B2 S2 n n2 Sf Df Bf) (hle : n1 ≤ n2) (ho : ∀ i, i < n1 → S2.hp i = S1.hp i ∧ D2 i = D1 i ∧ B2 i = B1 i) : ReadsAs w' D1 B1 S1 n n1 Sf Df Bf := fun i g1 g2 el xs g3 g4 => by
  obtain ⟨f1, f2, f3⟩ := ho i g2
  obtain ⟨p1, p2, p3⟩ := h i g1 (by omega) el xs (by rw [g3, f1]) g4
  exact ⟨p1.trans f2, p2.trans f3, p3⟩
theorem startI_spec {w : World} {G : Nat → Prop} {m : Nat} : ∀ (j : Nat) (as : List AV) (vals : List Value) (bs : List (Option Nat)) (n : Nat) (S : St) (vs : List AV) (S' : St) (D : Nat → Value) (B : Nat → Option Nat), startI m j as n S = some (vs, S') → InReps w G m j as vals bs →
    ∃ n' D' B', Took w S S' D D' B B' n n' (blocks bs) ∧ (∀ i, n ≤ i → i < n' → (S'.hp i).ver = (S.hp i).ver + 1) ∧ (∀ mm : Mem, Holds w S' D' n n' mm → (∀ k, G k → mm.A k) → (∀ id, SlotLe (argMem w G) mm id) → AVReps mm vs vals) ∧
      ∀ w' Sf Df Bf rets l, ReadsAs w' D' B' S' n n' Sf Df Bf → readI Sf m j as vs = some l → NewReps w' m rets j as vals (l ++ rets) bs
  | j, [], vals, bs, n, S, vs, S', D, B, h, hi => by
    injection h with h; injection h with e1 e2; subst e1; subst e2
    obtain ⟨rfl, rfl⟩ := hi
    refine ⟨n, D, B, Took.none_, fun i h1 h2 => by omega, fun mm _ _ _ => rfl, fun w' Sf Df Bf rets l _ hl => ?_⟩
    injection hl with hl; subst hl
    exact ⟨rfl, rfl, rfl⟩
  | j, a :: as, vals, bs, n, S, vs, S', D, B, h, hi => by
    obtain ⟨v, vals', rfl, hm, hu⟩ := hi
    simp only [startI] at h
    cases hb : Nat.testBit m j with
    | true =>
      rw [hb] at h
      obtain ⟨T, x, b0, b1, rfl, rfl, hO, hrest⟩ := hm hb
      obtain ⟨o1, o2, o3, o4, o5⟩ := hO
      simp only [cond_true] at h
      rw [o5] at h
      simp only [cond_true] at h
      split at h
      · rename_i l0 n1 S1 h1
        simp only [Option.map_eq_some_iff] at h
        obtain ⟨⟨vs1, S2⟩, h2, e⟩ := h
        injection e with e1 e2; subst e1; subst e2
        obtain ⟨D1, B1, t1, v1, r1, q1⟩ := adoptO_spec D B o5 h1 o1
        obtain ⟨n2, D2, B2, t2, v2, r2, q2⟩ := startI_spec (j + 1) as vals' b1 n1 S1 vs1 S2 D1 B1 h2 hrest
        have hle1 := t1.le
        have hle2 := t2.le
        refine ⟨n2, D2, B2, by rw [blocks_app]; exact t1.trans t2, fun i g1 g2 => ?_, fun mm hm' hA hs => ?_, fun w' Sf Df Bf rets l hR hl => ?_⟩
        · rcases Nat.lt_or_ge i n1 with g | g
          · rw [(t2.out i (.inl g)).1]; exact v1 i g1 g
          · rw [v2 i g g2, (t1.out i (.inr g)).1]
        · refine ⟨v, vals', rfl, ?_, r2 mm ⟨hm'.1, fun i g1 g2 => hm'.2 i (Nat.le_trans t1.le g1) g2⟩ hA hs⟩
          have hreps := r1 mm ⟨hm'.1, fun i g1 g2 => by
            obtain ⟨e1, e2⟩ := hm'.2 i g1 (Nat.lt_of_lt_of_le g2 t2.le)
            obtain ⟨f1, f2, _⟩ := t2.out i (.inl g2)
            exact ⟨e1.trans f1, e2.trans f2⟩⟩
          have := aggOf_rep (T := T) hreps (OwnO_one o1 o5)
          rwa [cells_back (size_one o5 o4) o2 o3] at this
        · refine ⟨v, vals', rfl, fun _ => ?_, fun hn => by rw [hb] at hn; cases hn⟩
          simp only [readI, hb, cond_true] at hl
          split at hl
          · rename_i y r hy hr
            injection hl with hl; subst hl
            obtain ⟨_, k2⟩ := q1 w' Sf Df Bf y [] [] (hR.sub hle2 (fun i hi => t2.out i (.inl hi))) (toVal_adopt o5 o4 h1 hy)
            exact ⟨T, x, y, false, r ++ rets, b0, b1, rfl, rfl, rfl, ⟨k2, o2, o3, o4, o5⟩, q2 w' Sf Df Bf rets r (fun i g1 g2 el xs g3 g4 => hR i (by omega) g2 el xs g3 g4) hr⟩
          · cases hl
      · cases h
    | false =>
      rw [hb] at h
      obtain ⟨hrep, hrest⟩ := hu hb
      simp only [cond_false, Option.map_eq_some_iff] at h
      obtain ⟨⟨vs1, S2⟩, h2, e⟩ := h
      injection e with e1 e2; subst e1; subst e2
      obtain ⟨n2, D2, B2, t2, v2, r2, q2⟩ := startI_spec (j + 1) as vals' bs n S vs1 S2 D B h2 hrest
      refine ⟨n2, D2, B2, t2, v2, fun mm hm' hA hs => ⟨v, vals', rfl, AVRep_mono (m := argMem w G) (m' := mm) hA (fun k _ => by rw [hm'.1]; rfl) hs hrep, r2 mm hm' hA hs⟩, fun w' Sf Df Bf rets l hR hl => ?_⟩
      refine ⟨v, vals', rfl, (fun hn => by rw [hb] at hn; cases hn), fun _ => ?_⟩
      simp only [readI, hb, cond_false] at hl
      exact q2 w' Sf Df Bf rets l hR hl
theorem InReps_len {w : World} {G : Nat → Prop} {m : Nat} : ∀ (j : Nat) (as : List AV) (vals : List Value) (bs : List (Option Nat)), InReps w G m j as vals bs → vals.length = as.length
  | j, [], vals, bs, h => by obtain ⟨rfl, _⟩ := h; rfl
  | j, a :: as, vals, bs, h => by
    obtain ⟨v, vals', rfl, h1, h2⟩ := h
    cases hb : Nat.testBit m j with
    | true => obtain ⟨T, x, b0, b1, _, _, _, hr⟩ := h1 hb; simp [InReps_len (j + 1) as vals' b1 hr]
    | false => simp [InReps_len (j + 1) as vals' bs (h2 hb).2]
theorem startI_len {m : Nat} : ∀ (j : Nat) (as : List AV) (n : Nat) (S : St) (vs : List AV) (S' : St), startI m j as n S = some (vs, S') → vs.length = as.length
  | j, [], n, S, vs, S', h => by injection h with h; injection h with e1 e2; subst e1; rfl
  | j, a :: as, n, S, vs, S', h => by
    simp only [startI] at h
    cases hb : Nat.testBit m j with
    | true =>
      rw [hb] at h
      simp only [cond_true] at h
      split at h
      · rename_i T x
        cases hf : T.flatIn with
        | false => rw [hf] at h; cases h
        | true =>
          rw [hf] at h
          simp only [cond_true] at h
          split at h
          · rename_i l0 n1 S1 h1
            simp only [Option.map_eq_some_iff] at h
            obtain ⟨⟨vs1, S2⟩, h2, e⟩ := h
            injection e with e1 e2; subst e1
            simp [startI_len (j + 1) as n1 S1 vs1 S2 h2]
          · cases h
      · cases h
    | false =>
      rw [hb] at h
      simp only [cond_false, Option.map_eq_some_iff] at h
      obtain ⟨⟨vs1, S2⟩, h2, e⟩ := h
      injection e with e1 e2; subst e1
      simp [startI_len (j + 1) as n S vs1 S2 h2]
theorem res_flat {w0 w' : World} {G : Nat → Prop} {rets : List Res} {v : Value} (h : ResRep w0 w' G rets v) (hf : rets.all (fun r => !r.T.hasSl) = true) : ∃ vs, v = packed vs ∧ FlatReps w' rets vs := by
  obtain ⟨vs, bs, e, _, _, hr⟩ := h
  refine ⟨vs, e, ?_⟩
  clear e
  revert hf
  have gen : ∀ (rets : List Res) (vs : List Value) (b : List Nat), ResReps w0 w' G bs rets vs b → rets.all (fun r => !r.T.hasSl) = true → FlatReps w' rets vs := by
    intro rets
    induction rets with
    | nil => intro vs b h _; exact h.1
    | cons r rs ih =>
      intro vs b h hf
      obtain ⟨u, vs', b0, b1, rfl, rfl, hp, h1, h2⟩ := h
      simp only [List.all_cons, Bool.and_eq_true, Bool.not_eq_true'] at hf
      refine ⟨u, vs', rfl, ?_, ih vs' b1 h2 (by simpa using hf.2)⟩
      unfold OneRes at h1
      cases ho : r.own with
      | true =>
        rw [ho] at h1
        obtain ⟨g1, g2, g3⟩ := h1
        have hR : Rep w' (fun _ => False) r.T r.x u.cells.toList := Rep_flat hf.1 (OwnRep_rep g1)
        unfold ValRep
        cases ha : r.T.isAgg with
        | true =>
          obtain ⟨cs, e⟩ := g2 ha
          refine ⟨cs, e, ?_⟩
          rw [e] at hR
          exact hR
        | false =>
          have := g3 ha
          have e : u.cells.toList = [u] := by cases u <;> first | rfl | (simp [Value.oneCell'] at this)
          rw [e] at hR
          exact hR
      | false =>
        rw [ho] at h1
        have h1 := h1.2
        unfold ValRep at h1 ⊢
        cases ha : r.T.isAgg with
        | true =>
          rw [ha] at h1
          obtain ⟨cs, e, hR⟩ := h1
          exact ⟨cs, e, Rep_flat hf.1 hR⟩
        | false =>
          rw [ha] at h1
          exact Rep_flat hf.1 h1
  exact gen rets vs bs hr
end Go.Ev
/- The evaluator's soundness: functions that write what they are handed, whole; their place in a table. -/
set_option linter.unusedSectionVars false
set_option linter.unusedVariables false
namespace Go.Ev
open Go Go.RowKit
@[irreducible] def prots (n n' : Nat) (D : Nat → Value) (B : Nat → Option Nat) : List (Nat × Value × Option Nat) := (List.range (n' - n)).map fun q => (n + q, D (n + q), B (n + q))
theorem prots_mem {n n' : Nat} {D : Nat → Value} {B : Nat → Option Nat} {p : Nat × Value × Option Nat} (h : p ∈ prots n n' D B) : ∃ i, n ≤ i ∧ i < n' ∧ p = (i, D i, B i) := by
  unfold prots at h
  obtain ⟨q, hq, e⟩ := List.mem_map.1 h
  have := List.mem_range.1 hq
  exact ⟨n + q, by omega, by omega, e.symm⟩
theorem prots_of {n n' i : Nat} {D : Nat → Value} {B : Nat → Option Nat} (h1 : n ≤ i) (h2 : i < n') : (i, D i, B i) ∈ prots n n' D B := by
  unfold prots
  refine List.mem_map.2 ⟨i - n, List.mem_range.2 (by omega), ?_⟩
  rw [show n + (i - n) = i by omega]
theorem evFunI_sound {P : Program} {glob : Nat → AV} {E : Tbl} {LO : LTbl} {cx : Cx} {n m : Nat} {fn : Func} (hS : SoundP P glob cx E) (hP : P.funcs[n]? = some fn) (hN : cx.N = fn.ntmps)
    (hL : ∀ en : Ent, en.P = P → en.cx = cx → Sound en glob E → ∀ c, fn.body = some c → ∀ p ∈ loopsOf c, LoopOK en LO p.1 p.2) {R : Type} {K : List Res → Option R} {r : R} {args : List AV} (he : evFunI E LO cx fn m args K = some r) : CallsI P glob n m args K r := by
  intro w vals G bs hG hbs hnd hargs hglob
  unfold evFunI at he
  split at he
  · rename_i c hc
    cases hlen : (Nat.ble args.length cx.N && cx.wk) with
    | false => rw [hlen] at he; cases he
    | true =>
      rw [hlen] at he
      simp only [cond_true] at he
      simp only [Bool.and_eq_true] at hlen
      have hle : args.length ≤ cx.N := Nat.le_of_ble_eq_true hlen.1
      have hvl := InReps_len 0 args vals bs hargs
      split at he
      · rename_i vs S0 hst
        have hvs := startI_len 0 args _ _ vs S0 hst
        obtain ⟨n', D', B', ht, hver, hrep, hread⟩ := startI_spec 0 args vals bs 3000000 (start []) vs S0 (fun _ => undef) (fun _ => none) hst hargs
        let en : Ent := ⟨P, cx, w, G, fun k => k ∈ blocks bs, prots 3000000 n' D' B'⟩
        let S1 : St := { tm := fun t => vs.getD t .bot, hp := S0.hp }
        have hSen : Sound en glob E := ⟨hS.types, hS.calls, hS.nat, hS.mixed, hS.cxg, hglob⟩
        refine calls_of_wp hP hc ?_
        have hin : ∀ i, (S0.hp i).blk.isSome = true → 3000000 ≤ i ∧ i < n' := by
          intro i hi
          rcases Nat.lt_or_ge i 3000000 with g | g
          · rw [(ht.out i (.inl g)).1] at hi; cases hi
          · rcases Nat.lt_or_ge i n' with g2 | g2
            · exact ⟨g, g2⟩
            · rw [(ht.out i (.inr g2)).1] at hi; cases hi
        have hbk : ∀ i k, (S0.hp i).blk.isSome = true → B' i = some k → k ∈ blocks bs := by
          intro i k hi hk
          obtain ⟨g1, g2⟩ := hin i hi
          obtain ⟨_, el, xs, _, _, h3⟩ := ht.new i g1 g2
          exact h3 k hk
        have hA : ∀ k, G k → (memOf en D' B' S1 w).A k := fun k hk => ⟨.inl (.inl hk), fun ⟨i, h1, h2⟩ => (hbs k (hbk i k h1 h2)).2 hk⟩
        have hsl : ∀ id, SlotLe (argMem w G) (memOf en D' B' S1 w) id := by
          intro id
          rcases Nat.lt_or_ge id 3000000 with g | g
          · refine .inr ⟨?_, fun b' hb' => ?_⟩
            · show (S0.hp id).ver = 0
              rw [(ht.out id (.inl g)).1]; rfl
            · have : (S0.hp id).blk = some b' := hb'
              rw [(ht.out id (.inl g)).1] at this; cases this
          · rcases Nat.lt_or_ge id n' with g2 | g2
            · refine .inl ?_
              show 0 < (S0.hp id).ver
              rw [hver id g g2]; omega
            · refine .inr ⟨?_, fun b' hb' => ?_⟩
              · show (S0.hp id).ver = 0
                rw [(ht.out id (.inr g2)).1]; rfl
              · have : (S0.hp id).blk = some b' := hb'
                rw [(ht.out id (.inr g2)).1] at this; cases this
        have hreps : AVReps (memOf en D' B' S1 w) vs vals := hrep _ ⟨rfl, fun i g1 g2 => ⟨rfl, rfl⟩⟩ hA hsl
        have hF : Fits en D' B' S1 { tmps := vals.toArray ++ Array.replicate (fn.ntmps - vals.toArray.size) undef, defers := [] } w := by
          refine ⟨fun k hk => hk.elim (hG k) (fun hk => (hbs k hk).1), fun k hk hm => (hbs k hm).2 hk, rfl, ?_, (Below.refl _ _).m, fun i k h1 h2 => ⟨.inl (hbk i k h1 h2), (hbs k (hbk i k h1 h2)).1⟩, fun i j k h1 h2 h3 h4 => ?_, fun i b hb => ?_, fun t ht' => ?_, fun g => ?_, fun p hp => ?_⟩
          · show (vals.toArray ++ Array.replicate (fn.ntmps - vals.toArray.size) undef).size = cx.N
            simp
            omega
          · obtain ⟨g1, g2⟩ := hin i h1
            obtain ⟨g3, g4⟩ := hin j h2
            exact ht.inj hnd i j k g1 g2 g3 g4 h3 h4
          · have hb : (S0.hp i).blk = some b := hb
            obtain ⟨g1, g2⟩ := hin i (by rw [hb]; rfl)
            obtain ⟨_, el, xs, h1, h2, _⟩ := ht.new i g1 g2
            rw [h1] at hb
            injection hb with hb
            subst hb
            exact RowRep_sub (fun k hk => hk.elim) h2
          · show AVRep _ (vs.getD t .bot) _
            rcases Nat.lt_or_ge t vs.length with h1 | h1
            · have hget : vs[t]? = some vs[t] := List.getElem?_eq_getElem h1
              obtain ⟨u, hu, hr⟩ := AVReps_get hreps hget
              have e1 : vs.getD t .bot = vs[t] := by simp [List.getD, hget]
              have e2 : (vals.toArray ++ Array.replicate (fn.ntmps - vals.toArray.size) undef).getD t undef = u := by
                have h2 : t < vals.length := by omega
                have : vals[t]? = some u := hu
                rw [Array.getD_eq_getD_getElem?, Array.getElem?_append_left (by simpa using h2)]
                simp [this]
              rw [e1, e2]
              exact hr
            · have : vs.getD t .bot = .bot := by simp [List.getD, List.getElem?_eq_none h1]
              rw [this]; trivial
          · show AVRep _ (cx.G g) _
            rw [hS.cxg]
            exact AVRep_mono (m := argMem w G) (m' := memOf en D' B' S1 w) hA (fun _ _ => rfl) hsl (hglob g)
          · obtain ⟨i, g1, g2, rfl⟩ := prots_mem (n := 3000000) (n' := n') (D := D') (B := B') hp
            refine ⟨g1, ?_, fun _ _ => ⟨rfl, rfl⟩⟩
            show 1 ≤ (S0.hp i).ver
            rw [hver i g1 g2]; omega
        refine evCode_sound (en := en) hSen c (hL en rfl rfl hSen c hc) S1 _ r _ _ _ w _ hF he fun e S' Df Bf a' w' hK hF' => ?_
        have fin : ∀ rets l, finish cx fn S' = some rets → readI S' m 0 args vs = some l → K (l ++ rets) = some r → a'.defers = [] ∧ ∃ v, (results fn a'.tmps).run P w' = .ok v w' ∧ ∃ rs rets v', K rs = some r ∧ Ending.returned v = .returned v' ∧ BelowM (fun k => k ∈ blocks bs) w.heap.size w w' ∧ NewReps w' m rets 0 args vals rs bs ∧ (rets.all (fun r => !r.T.hasSl) = true → ∃ vs, v' = packed vs ∧ FlatReps w' rets vs) := by
          intro rets l hrs hl hKrs
          obtain ⟨v, h1, h2⟩ := finish_spec (en := en) hS.types hF' (.inr hlen.2) hrs
          refine ⟨hF'.defers, v, h1, l ++ rets, rets, v, hKrs, rfl, hF'.below, ?_, fun hf => res_flat h2 hf⟩
          refine hread w' S' Df Bf rets l (fun i g1 g2 el xs g3 g4 => ?_) hl
          have hv1 : (S0.hp i).ver = 1 := by rw [hver i g1 g2]; rfl
          obtain ⟨_, _, k3⟩ := hF'.keep (i, D' i, B' i) (prots_of (n := 3000000) (n' := n') (D := D') (B := B') g1 g2)
          obtain ⟨p1, p2⟩ := k3 (by show (S'.hp i).ver = 1; rw [g3]; exact hv1) (by show (S'.hp i).blk.isSome = true; rw [g4]; rfl)
          exact ⟨p1, p2, _, hF'.blk i _ g4⟩
        cases e with
        | exit id => cases hK
        | normal =>
          simp only at hK
          split at hK
          · rename_i rets l hrs hl; exact fin rets l hrs hl hK
          · cases hK
        | ret =>
          simp only at hK
          split at hK
          · rename_i rets l hrs hl; exact fin rets l hrs hl hK
          · cases hK
      · cases he
  · cases he
theorem evFunI_nat {E : Tbl} (hE : NatE E) {LO : LTbl} (hL : NatL LO) {cx : Cx} {fn : Func} {m : Nat} {args : List AV} {R : Type} (K : List Res → Option R) : evFunI E LO cx fn m args K = (evFunI E LO cx fn m args some).bind K := by
  unfold evFunI
  split
  · rename_i c _
    cases (Nat.ble args.length cx.N && cx.wk) with
    | false => rfl
    | true =>
      simp only [cond_true]
      split
      · rename_i vs S0 _
        refine (evCode_nat hE hL _ _ _).trans (Eq.trans ?_ (congrArg (fun q => Option.bind q _) (evCode_nat hE hL _ _ _)).symm)
        cases evCode E LO cx c { tm := fun t => vs.getD t .bot, hp := S0.hp } fun e S' => some (e, S') with
        | none => rfl
        | some p =>
          obtain ⟨e, S'⟩ := p
          cases e with
          | exit id => rfl
          | normal => simp only [Option.bind_some]; cases finish cx fn S' <;> cases readI S' m 0 args vs <;> rfl
          | ret => simp only [Option.bind_some]; cases finish cx fn S' <;> cases readI S' m 0 args vs <;> rfl
      · rfl
  · rfl
/-! ### tables -/
structure SoundI (P : Program) (glob : Nat → AV) (n m : Nat) (f : FFun) : Prop where
  call : callable P n = true
  ok : ∀ {R : Type} (args : List AV) (K : List Res → Option R) (r : R), f args K = some r → CallsI P glob n m args K r
  nat : ∀ {R : Type} (args : List AV) (K : List Res → Option R), f args K = (f args some).bind K
theorem tconsI_sound {P : Program} {glob : Nat → AV} {n m : Nat} {f : FFun} {E : Tbl} (hm : m ≠ 0) (hf : SoundI P glob n m f) (hE : SoundE P glob E) : SoundE P glob (tcons (n + 1000000 * m) f E) := by
  have hn := callable_lt hf.call
  refine ⟨fun q args K r h => ?_⟩
  unfold tcons at h
  cases hb : Nat.beq q (n + 1000000 * m) with
  | true =>
    rw [hb] at h
    have := Nat.eq_of_beq_eq_true hb
    subst this
    refine ⟨fun hq => by omega, fun hq => ?_⟩
    rw [show (n + 1000000 * m) % 1000000 = n by omega, show (n + 1000000 * m) / 1000000 = m by omega]
    exact ⟨hf.call, hf.ok args K r h⟩
  | false => rw [hb] at h; exact hE.ok q args K r h
theorem tconsI_nat {P : Program} {glob : Nat → AV} {n m k : Nat} {f : FFun} {E : Tbl} (hf : SoundI P glob n m f) (hE : NatE E) : NatE (tcons k f E) := by
  intro R q args K
  show (bif Nat.beq q k then f args K else E q args K) = Option.bind (bif Nat.beq q k then f args some else E q args some) K
  cases Nat.beq q k with
  | true => exact hf.nat args K
  | false => exact hE q args K
/-- A table's entry, printed. -/
theorem funI_ok {P : Program} {glob : Nat → AV} {E : Tbl} {LO : LTbl} {cx : Cx} {n m : Nat} {fn : Func} {ss : Sh} {F : FArg ss} {g : List (Nat × Code)} (hcall : callable P n = true) (hS : SoundP P glob cx E) (hP : P.funcs[n]? = some fn) (hN : cx.N = fn.ntmps)
    (hL : LoopsOK P glob E cx LO g) (is : List Nat) (hb : (match fn.body with
      | some c => loopsOf c
      | none => []) = sel g is) (hf : ∀ {R : Type} (x : ss.den) (K : List Res → Option R), F x K = evFunI E LO cx fn m (give ss x) K) : SoundI P glob n m (ftab ss F) := by
  have heq : ∀ {R : Type} (args : List AV) (K : List Res → Option R) (r : R), ftab ss F args K = some r → evFunI E LO cx fn m args K = some r := by
    intro R args K r h
    cases hg : grab ss args with
    | none => rw [ftab_none hg K] at h; cases h
    | some x => rw [ftab_some hg K, hf] at h; rw [grab_give hg]; exact h
  refine ⟨hcall, fun args K r h => evFunI_sound hS hP hN (fun en e1 e2 hSen c hc p hp => hL.ok en e1 e2 hSen p (sel_mem (by rw [← hb, hc]; exact hp))) (heq args K r h), fun args K => ?_⟩
  cases hg : grab ss args with
  | none => rw [ftab_none hg K, ftab_none hg some]; rfl
  | some x =>
    rw [ftab_some hg K, ftab_some hg some, hf, hf]
    exact evFunI_nat hS.nat hL.nat K
end Go.Ev
