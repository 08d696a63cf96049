/- A part of the proof: the texts Pure3 Pure4 Pure5 joined. -/
import Derived.Test.YtelghkgnkncnoaaDoorPa
/- Comparison in place as a plain function; what it needs of a message. No program in sight. -/
set_option linter.unusedVariables false
namespace Go.Proofs.YtelghkgnkncnoaaDoor
def dataEq (a b : List Int) : Bool := (List.range (max a.length b.length)).all fun i => a.getD i 0 == b.getD i 0
theorem dataEq_iff (a b : List Int) : dataEq a b = true ↔ ∀ i, a.getD i 0 = b.getD i 0 := by
  unfold dataEq
  rw [List.all_eq_true]
  constructor
  · intro h i
    rcases Nat.lt_or_ge i (max a.length b.length) with hi | hi
    · simpa using h i (List.mem_range.2 hi)
    · rw [List.getD_eq_getElem?_getD, List.getD_eq_getElem?_getD, List.getElem?_eq_none (by omega), List.getElem?_eq_none (by omega)]
  · intro h i _
    simpa using h i
theorem dataEq_comm (a b : List Int) : dataEq a b = dataEq b a := by
  rw [Bool.eq_iff_iff, dataEq_iff, dataEq_iff]
  exact ⟨fun h i => (h i).symm, fun h i => (h i).symm⟩
/-- the object of the i-th pointer, or null -/
def objAt (ss : List (List Int)) (o : Ob) (i : Nat) : Ob := if (pointersOf o).2 ≤ (i : Int) then Ob.zero else (object ss o.seg ((pointersOf o).1 + (i : Int))).1
section
variable (ss tt : List (List Int)) (rec : Ob → Ob → Bool)
def ptrsE (x y : Ob) (n : Int) : Bool := (List.range n.toNat).all fun i => rec (objAt ss x i) (objAt tt y i)
def structsE (x y : Ob) : Bool := dataEq (sliceAt ss x.seg x.at_ x.data) (sliceAt tt y.seg y.at_ y.data) && ptrsE ss tt rec x y (max x.ptrs y.ptrs)
def compE (x y : Ob) : Bool := (List.range x.n.toNat).all fun i => structsE ss tt rec (element x (i : Int)) (element y (i : Int))
def plainE (x y : Ob) : Bool := decide (trimB x.elem x.n (wbytes (sliceAt ss x.seg x.at_ x.cost)) = trimB y.elem y.n (wbytes (sliceAt tt y.seg y.at_ y.cost)))
end
def sameV (ss tt : List (List Int)) : Nat → Ob → Ob → Bool
  | k, x, y =>
    if x.kind ≠ y.kind ∨ x.elem ≠ y.elem ∨ x.n ≠ y.n then false
    else if x.kind = 0 then true
    else match k with
      | 0 => false
      | k + 1 =>
        if x.kind = 1 then structsE ss tt (sameV ss tt k) x y
        else if x.elem = 7 then compE ss tt (sameV ss tt k) x y
        else if x.elem = 6 then ptrsE ss tt (sameV ss tt k) x y x.n
        else plainE ss tt x y
/-! ### messages that denote -/
/-- all pointers of an object satisfy D -/
def DenOf (D : Int → Int → Prop) (o : Ob) : Prop :=
  if o.kind ≠ 1 ∧ o.elem = 7 then ∀ j : Nat, (j : Int) < o.n → ∀ i : Nat, (i : Int) < (pointersOf (element o (j : Int))).2 → D o.seg ((pointersOf (element o (j : Int))).1 + (i : Int))
  else ∀ i : Nat, (i : Int) < (pointersOf o).2 → D o.seg ((pointersOf o).1 + (i : Int))
/-- the pointer at a place denotes, within k levels -/
def DenP (ss : List (List Int)) : Nat → Int → Int → Prop
  | k, seg, at_ => (follow ss seg at_).err = 0 ∧ ((follow ss seg at_).w = 0 ∨ match k with
    | 0 => False
    | k + 1 => (object ss seg at_).2 = 0 ∧ (object ss seg at_).1.cost ≤ 1000000 ∧ DenOf (DenP ss k) (object ss seg at_).1)
/-- the object denotes, within k levels -/
def OD (ss : List (List Int)) : Nat → Ob → Prop
  | k, o => o.kind = 0 ∨ match k with
    | 0 => False
    | k + 1 => ObIn ss o ∧ ObCost o ∧ o.cost ≤ 1000000 ∧ DenOf (DenP ss k) o
theorem DenP.od {ss : List (List Int)} (hw : WFS ss) {k : Nat} {seg at_ : Int} (h : DenP ss k seg at_) : OD ss k (object ss seg at_).1 := by
  unfold DenP at h
  obtain ⟨h1, h2⟩ := h
  by_cases hz : (follow ss seg at_).w = 0
  · unfold OD; left
    unfold object; dsimp only; rw [if_pos (.inr hz)]; rfl
  · cases k with
    | zero => rcases h2 with h | h; exact absurd h hz; exact h.elim
    | succ k =>
      rcases h2 with h | ⟨h3, h4, h5⟩
      · exact absurd h hz
      · have h6 := object_in hw h3 hz
        unfold OD; right
        exact ⟨h6.1, h6.2, h4, h5⟩
theorem upto_each {f : Int → Nat → Tv} {m : Int} : ∀ {n : Nat} {l : List Nd} {m' : Int}, upto f m n = .ok (l, m') → ∀ i, i < n → ∃ m1 x m2, f m1 i = .ok (x, m2) ∧ (∃ l1, upto f m i = .ok (l1, m1)) := by
  intro n
  induction n with
  | zero => intro l m' h i hi; omega
  | succ n ih =>
    intro l m' h i hi
    simp only [upto] at h
    split at h
    · cases h
    · rename_i l1 m1 h1
      split at h
      · cases h
      · rename_i x m2 h2
        rcases Nat.lt_or_ge i n with h3 | h3
        · exact ih h1 i h3
        · obtain rfl : i = n := by omega
          exact ⟨m1, x, m2, h2, l1, h1⟩
theorem ptrsV_den {ss : List (List Int)} {rec : Int → Int → Int → Tv} {D : Int → Int → Prop} (hl : ∀ seg at_, Low fun m => rec m seg at_) (hr : ∀ m seg at_ x m', 0 ≤ m → m ≤ 1000000 → rec m seg at_ = .ok (x, m') → D seg at_) {o : Ob} {m : Int} (h0 : 0 ≤ m) (h1 : m ≤ 1000000) {l : List Nd} {m' : Int} (h : ptrsV rec o m = .ok (l, m')) :
    ∀ i : Nat, (i : Int) < (pointersOf o).2 → D o.seg ((pointersOf o).1 + (i : Int)) := by
  intro i hi
  obtain ⟨m1, x, m2, h2, l1, h3⟩ := upto_each h i (by omega)
  have := upto_low (fun i => hl _ _) h0 h3
  exact hr m1 _ _ x m2 this.1 (by omega) h2
theorem objV_den {ss : List (List Int)} {rec : Int → Int → Int → Tv} {D : Int → Int → Prop} (hl : ∀ seg at_, Low fun m => rec m seg at_) (hr : ∀ m seg at_ x m', 0 ≤ m → m ≤ 1000000 → rec m seg at_ = .ok (x, m') → D seg at_) {o : Ob} (hk : o.kind = 1 ∨ o.kind = 2) {m : Int} (h0 : 0 ≤ m) (h1 : m ≤ 1000000) {x : Nd} {m' : Int} (h : objV ss rec o m = .ok (x, m')) : DenOf D o := by
  unfold objV at h
  split at h
  · rename_i h2
    obtain ⟨l, h3, _⟩ := mapNd_ok h
    unfold DenOf
    rw [if_neg (by omega)]
    exact ptrsV_den (ss := ss) hl hr h0 h1 h3
  · rename_i h2
    unfold listV at h
    split at h
    · rename_i h6
      obtain ⟨l, h3, _⟩ := mapNd_ok h
      unfold DenOf
      rw [if_neg (by omega)]
      exact ptrsV_den (ss := ss) hl hr h0 h1 h3
    · split at h
      · rename_i h6 h7
        obtain ⟨l, h3, _⟩ := mapNd_ok h
        unfold DenOf
        rw [if_pos ⟨h2, h7⟩]
        intro j hj i hi
        obtain ⟨m1, y, m2, h4, l1, h5⟩ := upto_each h3 j (by omega)
        have := upto_low (fun i => structV_low hl _) h0 h5
        obtain ⟨l2, h8, _⟩ := mapNd_ok h4
        exact ptrsV_den (ss := ss) hl hr this.1 (by omega) h8 i hi
      · rename_i h6 h7
        unfold DenOf
        rw [if_neg (by omega)]
        intro i hi
        exfalso
        have hz : (pointersOf o).2 = 0 := by
          unfold pointersOf
          rw [if_neg (by omega), if_neg (by omega)]
        omega
theorem valueV_den {ss : List (List Int)} (hw : WFS ss) : ∀ k m seg at_ x m', 0 ≤ m → m ≤ 1000000 → valueV ss k m seg at_ = .ok (x, m') → DenP ss k seg at_ := by
  intro k
  induction k with
  | zero =>
    intro m seg at_ x m' h0 h1 h
    unfold valueV at h
    unfold DenP
    dsimp only at h ⊢
    split at h
    · cases h
    · rename_i he
      split at h
      · rename_i hz; exact ⟨by simpa using he, .inl hz⟩
      · cases h
  | succ k ih =>
    intro m seg at_ x m' h0 h1 h
    unfold valueV at h
    unfold DenP
    dsimp only at h ⊢
    split at h
    · cases h
    · rename_i he
      split at h
      · rename_i hz; exact ⟨by simpa using he, .inl hz⟩
      · rename_i hz
        split at h
        · cases h
        · rename_i ho
          split at h
          · cases h
          · rename_i hc
            have ho' : (object ss seg at_).2 = 0 := by simpa using ho
            have h6 := object_in hw ho' hz
            have h7 := h6.2.low
            exact ⟨by simpa using he, .inr ⟨ho', by omega, objV_den (valueV_low hw k) ih h6.1.kind (by omega) (by omega) h⟩⟩
def rootV (ss : List (List Int)) : Ob := if (ss.getD 0 []).length = 0 then Ob.zero else (object ss 0 0).1
theorem runV_root {ss : List (List Int)} (hw : WFS ss) {d wl : Int} (hwl : wl ≤ 1000000) {r : Nd × Int} (h : runV ss d wl = .ok r) : 0 < ss.length ∧ OD ss d.toNat (rootV ss) := by
  obtain ⟨x, m'⟩ := r
  unfold runV at h
  split at h
  · rename_i h1
    refine ⟨h1.1, ?_⟩
    unfold rootV
    rw [if_pos h1.2]
    unfold OD; left; rfl
  · rename_i h1
    have hD := valueV_den hw _ _ _ _ _ _ (by unfold startM; split <;> omega) (by unfold startM; split <;> omega) h
    have he : (follow ss 0 0).err = 0 := by unfold DenP at hD; exact hD.1
    have hb : inB ss 0 0 1 = true := by
      unfold follow at he
      split at he
      · simp at he
      · rename_i hb; simpa using hb
    obtain ⟨_, b1, _, _, b4, b5⟩ := inB_of hb
    refine ⟨by omega, ?_⟩
    unfold rootV
    split
    · unfold OD; left; rfl
    · exact hD.od hw
/-- equal.Messages -/
def messagesV (ss tt : List (List Int)) (d wl : Int) : Bool × Int :=
  if (measureV ss d wl).2 ≠ 0 then (false, (measureV ss d wl).2)
  else if (measureV tt d wl).2 ≠ 0 then (false, (measureV tt d wl).2)
  else (sameV ss tt d.toNat (rootV ss) (rootV tt), 0)
theorem measureV_root {ss : List (List Int)} (hw : WFS ss) {d wl : Int} (hwl : wl ≤ 1000000) (h : (measureV ss d wl).2 = 0) : 0 < ss.length ∧ OD ss d.toNat (rootV ss) := by
  unfold measureV at h
  split at h
  · rename_i e he
    exact absurd h (runV_err hw he)
  · rename_i x m' hr
    exact runV_root hw hwl hr
end Go.Proofs.YtelghkgnkncnoaaDoor
/- The fixed examples. No program in sight. -/
namespace Go.Proofs.YtelghkgnkncnoaaDoor
theorem ex1 : messagesV [[4294967292]] [[4294967296, 0]] 5 50 = (true, 0) := by decide +kernel
theorem ex2 : messagesV [[4294967292]] [[0]] 5 50 = (false, 0) := by decide +kernel
theorem ex3 : messagesV [[0]] [[3]] 5 50 = (false, 6) := by decide +kernel
theorem ex4 : messagesV [[7]] [[3]] 5 50 = (false, 4) := by decide +kernel
theorem ex5 : messagesV [[4294967298], [4294967296, 5]] [[8589934596, 9, 5, 0]] 5 50 = (true, 0) := by decide +kernel
theorem ex6 : dataEq [5, 0] [5] = true := by decide +kernel
theorem ex7 : dataEq [5, 1] [5] = false := by decide +kernel
theorem ex8 : dataEq [] [0] = true := by decide +kernel
end Go.Proofs.YtelghkgnkncnoaaDoor
/- Comparison in place is an equivalence. No program in sight. -/
set_option linter.unusedVariables false
namespace Go.Proofs.YtelghkgnkncnoaaDoor
theorem objAt_zero {ss : List (List Int)} {o : Ob} (hk : o.kind = 1) {i : Nat} (hi : o.ptrs ≤ (i : Int)) : objAt ss o i = Ob.zero := by
  unfold objAt
  rw [if_pos]
  unfold pointersOf
  split
  · exact hi
  · split
    · rename_i h1 h2; omega
    · simp
theorem sameV_zero_l {ss ss' tt : List (List Int)} {k k' : Nat} {z : Ob} : sameV ss tt k Ob.zero z = sameV ss' tt k' Ob.zero z := by
  unfold sameV
  split
  · rfl
  · rw [if_pos (show Ob.zero.kind = 0 from rfl), if_pos (show Ob.zero.kind = 0 from rfl)]
theorem sameV_zero_r {ss tt tt' : List (List Int)} {k k' : Nat} {z : Ob} : sameV ss tt k z Ob.zero = sameV ss tt' k' z Ob.zero := by
  unfold sameV
  split
  · rfl
  · rename_i h
    have h1 : z.kind = 0 := by
      simp only [ne_eq, not_or, Decidable.not_not] at h
      exact h.1
    rw [if_pos h1, if_pos h1]
theorem sameV_refl {ss : List (List Int)} (hw : WFS ss) : ∀ k x, OD ss k x → sameV ss ss k x x = true := by
  intro k
  induction k with
  | zero =>
    intro x h
    unfold OD at h
    unfold sameV
    rw [if_neg (by simp)]
    rcases h with h | h
    · rw [if_pos h]
    · exact h.elim
  | succ k ih =>
    intro x h
    unfold OD at h
    unfold sameV
    rw [if_neg (by simp)]
    by_cases h0 : x.kind = 0
    · rw [if_pos h0]
    · rw [if_neg h0]
      dsimp only
      rcases h with h | ⟨hi, hc, hm, hd⟩
      · exact absurd h h0
      · have hrec : ∀ o : Ob, (∀ i : Nat, (i : Int) < (pointersOf o).2 → DenP ss k o.seg ((pointersOf o).1 + (i : Int))) → ∀ i : Nat, sameV ss ss k (objAt ss o i) (objAt ss o i) = true := by
          intro o ho i
          refine ih _ ?_
          unfold objAt
          split
          · unfold OD; left; rfl
          · exact (ho i (by omega)).od hw
        have hstr : ∀ o : Ob, (∀ i : Nat, (i : Int) < (pointersOf o).2 → DenP ss k o.seg ((pointersOf o).1 + (i : Int))) → structsE ss ss (sameV ss ss k) o o = true := by
          intro o ho
          unfold structsE ptrsE
          rw [Bool.and_eq_true, List.all_eq_true]
          exact ⟨(dataEq_iff _ _).2 fun _ => rfl, fun i _ => hrec o ho i⟩
        unfold DenOf at hd
        split
        · rename_i h1
          rw [if_neg (by omega)] at hd
          exact hstr x hd
        · rename_i h1
          split
          · rename_i h7
            rw [if_pos ⟨h1, h7⟩] at hd
            unfold compE
            rw [List.all_eq_true]
            intro j hj
            exact hstr _ (hd j (by have := List.mem_range.1 hj; omega))
          · rename_i h7
            split
            · rename_i h6
              rw [if_neg (by omega)] at hd
              unfold ptrsE
              rw [List.all_eq_true]
              exact fun i _ => hrec x hd i
            · unfold plainE; simp
theorem all_congr {n : Nat} {f g : Nat → Bool} (h : ∀ i, i < n → f i = g i) : (List.range n).all f = (List.range n).all g := by
  rw [Bool.eq_iff_iff, List.all_eq_true, List.all_eq_true]
  exact ⟨fun q i hi => by rw [← h i (List.mem_range.1 hi)]; exact q i hi, fun q i hi => by rw [h i (List.mem_range.1 hi)]; exact q i hi⟩
theorem sameV_comm {ss tt : List (List Int)} : ∀ k x y, sameV ss tt k x y = sameV tt ss k y x := by
  intro k
  induction k with
  | zero =>
    intro x y
    unfold sameV
    by_cases hd : x.kind ≠ y.kind ∨ x.elem ≠ y.elem ∨ x.n ≠ y.n
    · rw [if_pos hd, if_pos (by rcases hd with h | h | h; exact .inl h.symm; exact .inr (.inl h.symm); exact .inr (.inr h.symm))]
    · simp only [ne_eq, not_or, Decidable.not_not] at hd
      have q1 : ¬ (x.kind ≠ y.kind ∨ x.elem ≠ y.elem ∨ x.n ≠ y.n) := by simp only [ne_eq, not_or, Decidable.not_not]; exact hd
      have q2 : ¬ (y.kind ≠ x.kind ∨ y.elem ≠ x.elem ∨ y.n ≠ x.n) := by simp only [ne_eq, not_or, Decidable.not_not]; exact ⟨hd.1.symm, hd.2.1.symm, hd.2.2.symm⟩
      rw [if_neg q1, if_neg q2, hd.1]
  | succ k ih =>
    intro x y
    unfold sameV
    by_cases hd : x.kind ≠ y.kind ∨ x.elem ≠ y.elem ∨ x.n ≠ y.n
    · rw [if_pos hd, if_pos (by rcases hd with h | h | h; exact .inl h.symm; exact .inr (.inl h.symm); exact .inr (.inr h.symm))]
    · simp only [ne_eq, not_or, Decidable.not_not] at hd
      have hstr : ∀ x y : Ob, structsE ss tt (sameV ss tt k) x y = structsE tt ss (sameV tt ss k) y x := by
        intro x y
        unfold structsE ptrsE
        rw [dataEq_comm, Int.max_comm]
        congr 1
        exact all_congr fun i _ => ih _ _
      have q1 : ¬ (x.kind ≠ y.kind ∨ x.elem ≠ y.elem ∨ x.n ≠ y.n) := by simp only [ne_eq, not_or, Decidable.not_not]; exact hd
      have q2 : ¬ (y.kind ≠ x.kind ∨ y.elem ≠ x.elem ∨ y.n ≠ x.n) := by simp only [ne_eq, not_or, Decidable.not_not]; exact ⟨hd.1.symm, hd.2.1.symm, hd.2.2.symm⟩
      rw [if_neg q1, if_neg q2]
      dsimp only
      by_cases h0 : y.kind = 0
      · rw [if_pos (hd.1.trans h0), if_pos h0]
      · rw [if_neg (by rw [hd.1]; exact h0), if_neg h0]
        by_cases h1 : y.kind = 1
        · rw [if_pos (hd.1.trans h1), if_pos h1]; exact hstr x y
        · rw [if_neg (by rw [hd.1]; exact h1), if_neg h1]
          by_cases h7 : y.elem = 7
          · rw [if_pos (hd.2.1.trans h7), if_pos h7]
            unfold compE
            rw [hd.2.2]
            exact all_congr fun i _ => hstr _ _
          · rw [if_neg (by rw [hd.2.1]; exact h7), if_neg h7]
            by_cases h6 : y.elem = 6
            · rw [if_pos (hd.2.1.trans h6), if_pos h6]
              unfold ptrsE
              rw [hd.2.2]
              exact all_congr fun i _ => ih _ _
            · rw [if_neg (by rw [hd.2.1]; exact h6), if_neg h6]
              unfold plainE
              rw [Bool.eq_iff_iff, decide_eq_true_iff, decide_eq_true_iff]
              exact eq_comm
theorem sameV_trans {ss tt uu : List (List Int)} : ∀ k x y z, sameV ss tt k x y = true → sameV tt uu k y z = true → sameV ss uu k x z = true := by
  intro k
  induction k with
  | zero =>
    intro x y z h1 h2
    unfold sameV at *
    split at h1
    · cases h1
    · rename_i hd
      split at h1
      · rename_i h0
        split at h2
        · cases h2
        · rename_i hd'
          simp only [ne_eq, not_or, Decidable.not_not] at hd hd'
          rw [if_neg (by simp only [ne_eq, not_or, Decidable.not_not]; omega), if_pos h0]
      · cases h1
  | succ k ih =>
    intro x y z h1 h2
    unfold sameV at h1 h2 ⊢
    split at h1
    · cases h1
    · rename_i hd
      split at h2
      · cases h2
      · rename_i hd'
        simp only [ne_eq, not_or, Decidable.not_not] at hd hd'
        rw [if_neg (by simp only [ne_eq, not_or, Decidable.not_not]; omega)]
        by_cases h0 : x.kind = 0
        · rw [if_pos h0]
        · rw [if_neg h0] at h1 ⊢
          rw [if_neg (by omega)] at h2
          dsimp only at h1 h2 ⊢
          have hstr : ∀ x y z : Ob, x.kind = 1 → y.kind = 1 → z.kind = 1 → structsE ss tt (sameV ss tt k) x y = true → structsE tt uu (sameV tt uu k) y z = true → structsE ss uu (sameV ss uu k) x z = true := by
            intro x y z kx ky kz q1 q2
            unfold structsE ptrsE at *
            rw [Bool.and_eq_true, List.all_eq_true] at *
            refine ⟨(dataEq_iff _ _).2 fun i => ((dataEq_iff _ _).1 q1.1 i).trans ((dataEq_iff _ _).1 q2.1 i), fun i hi => ?_⟩
            have hi' := List.mem_range.1 hi
            by_cases c1 : (i : Int) < max x.ptrs y.ptrs
            · have r1 := q1.2 i (List.mem_range.2 (by omega))
              by_cases c2 : (i : Int) < max y.ptrs z.ptrs
              · exact ih _ _ _ r1 (q2.2 i (List.mem_range.2 (by omega)))
              · rw [objAt_zero ky (by omega)] at r1
                rw [objAt_zero kz (by omega), sameV_zero_r (tt' := tt) (k' := k)]
                exact r1
            · have r2 := q2.2 i (List.mem_range.2 (by omega))
              rw [objAt_zero ky (by omega)] at r2
              rw [objAt_zero kx (by omega), sameV_zero_l (ss' := tt) (k' := k)]
              exact r2
          by_cases h1' : x.kind = 1
          · rw [if_pos h1'] at h1 ⊢
            rw [if_pos (by omega)] at h2
            exact hstr x y z h1' (by omega) (by omega) h1 h2
          · rw [if_neg h1'] at h1 ⊢
            rw [if_neg (by omega)] at h2
            by_cases h7 : x.elem = 7
            · rw [if_pos h7] at h1 ⊢
              rw [if_pos (by omega)] at h2
              unfold compE at *
              rw [List.all_eq_true] at *
              intro j hj
              exact hstr _ _ _ rfl rfl rfl (h1 j hj) (h2 j (by rw [← hd.2.2]; exact hj))
            · rw [if_neg h7] at h1 ⊢
              rw [if_neg (by omega)] at h2
              by_cases h6 : x.elem = 6
              · rw [if_pos h6] at h1 ⊢
                rw [if_pos (by omega)] at h2
                unfold ptrsE at *
                rw [List.all_eq_true] at *
                intro i hi
                exact ih _ _ _ (h1 i hi) (h2 i (by rw [← hd.2.2]; exact hi))
              · rw [if_neg h6] at h1 ⊢
                rw [if_neg (by omega)] at h2
                unfold plainE at *
                rw [decide_eq_true_iff] at *
                exact h1.trans h2
/-! ### the law -/
theorem messagesV_self {a : List (List Int)} (ha : WFS a) {d wl : Int} (hwl : wl ≤ 1000000) : (messagesV a a d wl).1 = ((messagesV a a d wl).2 == 0) := by
  unfold messagesV
  by_cases h : (measureV a d wl).2 ≠ 0
  · rw [if_pos h]; simpa using h
  · rw [if_neg h, if_neg h]
    have h' : (measureV a d wl).2 = 0 := by simpa using h
    simp only
    rw [sameV_refl ha _ _ (measureV_root ha hwl h').2]; rfl
theorem messagesV_ok {a b : List (List Int)} {d wl : Int} (h : (messagesV a b d wl).1 = true) : (messagesV a b d wl).2 = 0 := by
  unfold messagesV at *
  split at h
  · cases h
  · rename_i h1
    rw [if_neg h1]
    split at h
    · cases h
    · rename_i h2; rw [if_neg h2]
theorem messagesV_comm {a b : List (List Int)} {d wl : Int} : (messagesV a b d wl).1 = (messagesV b a d wl).1 ∧ (((messagesV a b d wl).2 == 0) = ((messagesV b a d wl).2 == 0)) := by
  unfold messagesV
  by_cases h1 : (measureV a d wl).2 = 0 <;> by_cases h2 : (measureV b d wl).2 = 0
  · rw [if_neg (by simpa using h1), if_neg (by simpa using h2), if_neg (by simpa using h2), if_neg (by simpa using h1)]
    exact ⟨sameV_comm _ _ _, rfl⟩
  · rw [if_neg (by simpa using h1), if_pos h2, if_pos h2]; exact ⟨rfl, rfl⟩
  · rw [if_pos h1, if_neg (by simpa using h2), if_pos h1]; exact ⟨rfl, rfl⟩
  · rw [if_pos h1, if_pos h2]
    refine ⟨rfl, ?_⟩
    have e1 : ((measureV a d wl).2 == 0) = false := by simpa using h1
    have e2 : ((measureV b d wl).2 == 0) = false := by simpa using h2
    show ((measureV a d wl).2 == 0) = ((measureV b d wl).2 == 0)
    rw [e1, e2]
theorem messagesV_trans {a b c : List (List Int)} {d wl : Int} (h1 : (messagesV a b d wl).1 = true) (h2 : (messagesV b c d wl).1 = true) : (messagesV a c d wl).1 = true := by
  unfold messagesV at *
  split at h1
  · cases h1
  · rename_i q1
    rw [if_neg q1]
    split at h1
    · cases h1
    · rename_i q2
      rw [if_neg q2] at h2
      split at h2
      · cases h2
      · rename_i q3
        rw [if_neg q3]
        exact sameV_trans _ _ _ _ h1 h2
end Go.Proofs.YtelghkgnkncnoaaDoor
