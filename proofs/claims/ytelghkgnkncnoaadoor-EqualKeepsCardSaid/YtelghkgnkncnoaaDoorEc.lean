/- A part of the proof: the texts W32 W33 W34 joined. -/
import Derived.Test.YtelghkgnkncnoaaDoorEb
/- Contract of equal's pair.same. -/
set_option linter.unusedVariables false
set_option linter.unusedSimpArgs false
namespace Go.Proofs.YtelghkgnkncnoaaDoor
open Go.RowKit
theorem od_zero (ss : List (List Int)) (k : Nat) : OD ss k Ob.zero := by unfold OD; left; rfl
theorem objAt_od {ss : List (List Int)} (hw : WFS ss) {k : Nat} {o : Ob} (h : ∀ i : Nat, (i : Int) < (pointersOf o).2 → DenP ss k o.seg ((pointersOf o).1 + (i : Int))) (i : Nat) : OD ss k (objAt ss o i) := by
  unfold objAt
  split
  · exact od_zero ss k
  · exact (h i (by omega)).od hw
section
variable {B B' : Nat} {w : World} {A A' : Option Addr} {n c n' c' : Nat} {ss tt : List (List Int)}
theorem bne_t {a b : Int} (h : a ≠ b) : (a != b) = true := by simpa using h
theorem bne_f {a b : Int} (h : a = b) : (a != b) = false := by simpa using h
theorem beq_f {a b : Int} (h : a ≠ b) : (a == b) = false := by simpa using h
set_option maxRecDepth 100000 in
theorem same_diff (x y : Ob) (h : x.kind ≠ y.kind ∨ x.elem ≠ y.elem ∨ x.n ≠ y.n) : Calls Tryd.prog 25 #[vPair A n c A' n' c', vOb x, vOb y] w (VPost w (.bool false)) := by
  by_cases h1 : x.kind = y.kind
  · have b1 := bne_f h1
    by_cases h2 : x.elem = y.elem
    · have b2 := bne_f h2
      have b3 := bne_t (show x.n ≠ y.n from by rcases h with h | h | h; exact absurd h1 h; exact absurd h2 h; exact h)
      clear h h1 h2
      go_enter Tryd.func25, Tryd.ntmps25
      go_wp2
      go_ret
      exact ⟨rfl, by (repeat (first | exact Below.refl _ _ | assumption | refine Below.setCell ?_ (by (try simp); (try omega)) _ | refine Below.alloc ?_ (by (try simp); (try omega)) _ | refine below_setRow ?_ (by (try simp); (try omega)) _ | refine pw_below_drewN ?_ _ | refine Below.drew ?_))⟩
    · have b2 := bne_t h2
      clear h h1 h2
      go_enter Tryd.func25, Tryd.ntmps25
      go_wp2
      go_ret
      exact ⟨rfl, by (repeat (first | exact Below.refl _ _ | assumption | refine Below.setCell ?_ (by (try simp); (try omega)) _ | refine Below.alloc ?_ (by (try simp); (try omega)) _ | refine below_setRow ?_ (by (try simp); (try omega)) _ | refine pw_below_drewN ?_ _ | refine Below.drew ?_))⟩
  · have b1 := bne_t h1
    clear h h1
    go_enter Tryd.func25, Tryd.ntmps25
    go_wp2
    go_ret
    exact ⟨rfl, by (repeat (first | exact Below.refl _ _ | assumption | refine Below.setCell ?_ (by (try simp); (try omega)) _ | refine Below.alloc ?_ (by (try simp); (try omega)) _ | refine below_setRow ?_ (by (try simp); (try omega)) _ | refine pw_below_drewN ?_ _ | refine Below.drew ?_))⟩
theorem makeF (fn : Fn) (first cap : Array Value) (w : World) : (Instr.makeFunc fn first cap).run Tryd.prog w = .ok (.func fn first cap) w := rfl
set_option maxRecDepth 100000 in
theorem same_null (sg at_ da pt el n_ co sg' at' da' pt' co' : Int) : Calls Tryd.prog 25 #[vPair A n c A' n' c', vOb ⟨0, sg, at_, da, pt, el, n_, co⟩, vOb ⟨0, sg', at', da', pt', el, n_, co'⟩] w (VPost w (.bool true)) := by
  have hmf := makeF
  have b1 : (el != el) = false := bne_f rfl
  have b2 : (n_ != n_) = false := bne_f rfl
  go_enter Tryd.func25, Tryd.ntmps25
  go_wp2
  go_ret
  exact ⟨rfl, by (repeat (first | exact Below.refl _ _ | assumption | refine Below.setCell ?_ (by (try simp); (try omega)) _ | refine Below.alloc ?_ (by (try simp); (try omega)) _ | refine below_setRow ?_ (by (try simp); (try omega)) _ | refine pw_below_drewN ?_ _ | refine Below.drew ?_))⟩
set_option maxRecDepth 100000 in
theorem same_struct {k : Nat} (hS : SameSaid k) (h : MsgIn B w A n ss) (h' : MsgIn B' w A' n' tt) (sg at_ da pt el n_ co sg' at' da' pt' co' : Int) (hx : ObIn ss ⟨1, sg, at_, da, pt, el, n_, co⟩) (hy : ObIn tt ⟨1, sg', at', da', pt', el, n_, co'⟩)
    (ox : ∀ i : Nat, OD ss k (objAt ss ⟨1, sg, at_, da, pt, el, n_, co⟩ i)) (oy : ∀ i : Nat, OD tt k (objAt tt ⟨1, sg', at', da', pt', el, n_, co'⟩ i)) :
    Calls Tryd.prog 25 #[vPair A n c A' n' c', vOb ⟨1, sg, at_, da, pt, el, n_, co⟩, vOb ⟨1, sg', at', da', pt', el, n_, co'⟩] w (VPost w (.bool (structsE ss tt (sameV ss tt k) ⟨1, sg, at_, da, pt, el, n_, co⟩ ⟨1, sg', at', da', pt', el, n_, co'⟩))) := by
  have hmf := makeF
  have b1 : (el != el) = false := bne_f rfl
  have b2 : (n_ != n_) = false := bne_f rfl
  have ix : inB ss sg at_ da = true := by
    have hb := hx.inb
    unfold spanOf at hb
    rw [if_pos rfl] at hb
    exact inB_sub hb (Int.le_refl _) (by have := hx.ptrs.1; simp only at this ⊢; omega) hx.data.1
  have iy : inB tt sg' at' da' = true := by
    have hb := hy.inb
    unfold spanOf at hb
    rw [if_pos rfl] at hb
    exact inB_sub hb (Int.le_refl _) (by have := hy.ptrs.1; simp only at this ⊢; omega) hy.data.1
  have HS := Lib.hid hS
  have H := Lib.hid h
  have H' := Lib.hid h'
  have HX := Lib.hid hx
  have HY := Lib.hid hy
  have HOx := Lib.hid ox
  have HOy := Lib.hid oy
  have HIx := Lib.hid ix
  have HIy := Lib.hid iy
  clear hS h h' hx hy ox oy ix iy
  go_enter Tryd.func25, Tryd.ntmps25
  go_wp2_with (go_at_call 45; refine (estructs_any HS.out (H.out.below (by (repeat (first | exact Below.refl _ _ | assumption | refine Below.setCell ?_ (by (try simp); (try omega)) _ | refine Below.alloc ?_ (by (try simp); (try omega)) _ | refine below_setRow ?_ (by (try simp); (try omega)) _ | refine pw_below_drewN ?_ _ | refine Below.drew ?_)))) (H'.out.below (by (repeat (first | exact Below.refl _ _ | assumption | refine Below.setCell ?_ (by (try simp); (try omega)) _ | refine Below.alloc ?_ (by (try simp); (try omega)) _ | refine below_setRow ?_ (by (try simp); (try omega)) _ | refine pw_below_drewN ?_ _ | refine Below.drew ?_)))) ⟨1, sg, at_, da, pt, el, n_, co⟩ ⟨1, sg', at', da', pt', el, n_, co'⟩ HX.out HY.out HIx.out HIy.out (fun i _ => HOx.out i) (fun i _ => HOy.out i)).mono ?_; rintro e w1 ⟨rfl, hb1⟩; have hB1 := below_step (w := w) (by (repeat (first | exact Below.refl _ _ | assumption | refine Below.setCell ?_ (by (try simp); (try omega)) _ | refine Below.alloc ?_ (by (try simp); (try omega)) _ | refine below_setRow ?_ (by (try simp); (try omega)) _ | refine pw_below_drewN ?_ _ | refine Below.drew ?_))) hb1)
  go_ret
  exact ⟨rfl, hB1⟩
set_option maxRecDepth 100000 in
theorem same_comp {k : Nat} (hS : SameSaid k) (h : MsgIn B w A n ss) (h' : MsgIn B' w A' n' tt) (sg at_ da pt co sg' at' da' pt' co' : Int) (N : Nat) (hN : N ≤ 1000000) (hx : ObIn ss ⟨2, sg, at_, da, pt, 7, (N : Int), co⟩) (hy : ObIn tt ⟨2, sg', at', da', pt', 7, (N : Int), co'⟩)
    (ox : ∀ j : Nat, j < N → ∀ i : Nat, OD ss k (objAt ss (element ⟨2, sg, at_, da, pt, 7, (N : Int), co⟩ (j : Int)) i)) (oy : ∀ j : Nat, j < N → ∀ i : Nat, OD tt k (objAt tt (element ⟨2, sg', at', da', pt', 7, (N : Int), co'⟩ (j : Int)) i)) :
    Calls Tryd.prog 25 #[vPair A n c A' n' c', vOb ⟨2, sg, at_, da, pt, 7, (N : Int), co⟩, vOb ⟨2, sg', at', da', pt', 7, (N : Int), co'⟩] w (VPost w (.bool (compE ss tt (sameV ss tt k) ⟨2, sg, at_, da, pt, 7, (N : Int), co⟩ ⟨2, sg', at', da', pt', 7, (N : Int), co'⟩))) := by
  have hmf := makeF
  have b2 : ((N : Int) != (N : Int)) = false := bne_f rfl
  have HS := Lib.hid hS
  have H := Lib.hid h
  have H' := Lib.hid h'
  have HX := Lib.hid hx
  have HY := Lib.hid hy
  have HOx := Lib.hid ox
  have HOy := Lib.hid oy
  clear hS h h' hx hy ox oy
  go_enter Tryd.func25, Tryd.ntmps25
  go_wp2_with (go_at_call 46; refine (ecomp_any HS.out (H.out.below (by (repeat (first | exact Below.refl _ _ | assumption | refine Below.setCell ?_ (by (try simp); (try omega)) _ | refine Below.alloc ?_ (by (try simp); (try omega)) _ | refine below_setRow ?_ (by (try simp); (try omega)) _ | refine pw_below_drewN ?_ _ | refine Below.drew ?_)))) (H'.out.below (by (repeat (first | exact Below.refl _ _ | assumption | refine Below.setCell ?_ (by (try simp); (try omega)) _ | refine Below.alloc ?_ (by (try simp); (try omega)) _ | refine below_setRow ?_ (by (try simp); (try omega)) _ | refine pw_below_drewN ?_ _ | refine Below.drew ?_)))) sg at_ da pt co sg' at' da' pt' co' N hN HX.out HY.out (fun j hj i _ => HOx.out j hj i) (fun j hj i _ => HOy.out j hj i)).mono ?_; rintro e w1 ⟨rfl, hb1⟩; have hB1 := below_step (w := w) (by (repeat (first | exact Below.refl _ _ | assumption | refine Below.setCell ?_ (by (try simp); (try omega)) _ | refine Below.alloc ?_ (by (try simp); (try omega)) _ | refine below_setRow ?_ (by (try simp); (try omega)) _ | refine pw_below_drewN ?_ _ | refine Below.drew ?_))) hb1)
  go_ret
  exact ⟨rfl, hB1⟩
set_option maxRecDepth 100000 in
theorem same_ptrs {k : Nat} (hS : SameSaid k) (h : MsgIn B w A n ss) (h' : MsgIn B' w A' n' tt) (sg at_ da pt co sg' at' da' pt' co' : Int) (N : Nat) (hN : N ≤ 1000000) (hx : ObIn ss ⟨2, sg, at_, da, pt, 6, (N : Int), co⟩) (hy : ObIn tt ⟨2, sg', at', da', pt', 6, (N : Int), co'⟩)
    (ox : ∀ i : Nat, OD ss k (objAt ss ⟨2, sg, at_, da, pt, 6, (N : Int), co⟩ i)) (oy : ∀ i : Nat, OD tt k (objAt tt ⟨2, sg', at', da', pt', 6, (N : Int), co'⟩ i)) :
    Calls Tryd.prog 25 #[vPair A n c A' n' c', vOb ⟨2, sg, at_, da, pt, 6, (N : Int), co⟩, vOb ⟨2, sg', at', da', pt', 6, (N : Int), co'⟩] w (VPost w (.bool (ptrsE ss tt (sameV ss tt k) ⟨2, sg, at_, da, pt, 6, (N : Int), co⟩ ⟨2, sg', at', da', pt', 6, (N : Int), co'⟩ N))) := by
  have hmf := makeF
  have b2 : ((N : Int) != (N : Int)) = false := bne_f rfl
  have HS := Lib.hid hS
  have H := Lib.hid h
  have H' := Lib.hid h'
  have HX := Lib.hid hx
  have HY := Lib.hid hy
  have HOx := Lib.hid ox
  have HOy := Lib.hid oy
  clear hS h h' hx hy ox oy
  go_enter Tryd.func25, Tryd.ntmps25
  go_wp2_with (go_at_call 47; refine (epointers_any HS.out (H.out.below (by (repeat (first | exact Below.refl _ _ | assumption | refine Below.setCell ?_ (by (try simp); (try omega)) _ | refine Below.alloc ?_ (by (try simp); (try omega)) _ | refine below_setRow ?_ (by (try simp); (try omega)) _ | refine pw_below_drewN ?_ _ | refine Below.drew ?_)))) (H'.out.below (by (repeat (first | exact Below.refl _ _ | assumption | refine Below.setCell ?_ (by (try simp); (try omega)) _ | refine Below.alloc ?_ (by (try simp); (try omega)) _ | refine below_setRow ?_ (by (try simp); (try omega)) _ | refine pw_below_drewN ?_ _ | refine Below.drew ?_)))) ⟨2, sg, at_, da, pt, 6, (N : Int), co⟩ ⟨2, sg', at', da', pt', 6, (N : Int), co'⟩ HX.out HY.out N hN (fun i _ => HOx.out i) (fun i _ => HOy.out i)).mono ?_; rintro e w1 ⟨rfl, hb1⟩; have hB1 := below_step (w := w) (by (repeat (first | exact Below.refl _ _ | assumption | refine Below.setCell ?_ (by (try simp); (try omega)) _ | refine Below.alloc ?_ (by (try simp); (try omega)) _ | refine below_setRow ?_ (by (try simp); (try omega)) _ | refine pw_below_drewN ?_ _ | refine Below.drew ?_))) hb1)
  go_ret
  exact ⟨rfl, hB1⟩
set_option maxRecDepth 100000 in
theorem same_plain (h : MsgIn B w A n ss) (h' : MsgIn B' w A' n' tt) (sg at_ da pt el n_ co sg' at' da' pt' co' : Int) (e6 : el ≠ 6) (e7 : el ≠ 7) (hx : ObIn ss ⟨2, sg, at_, da, pt, el, n_, co⟩) (hy : ObIn tt ⟨2, sg', at', da', pt', el, n_, co'⟩) (cx : ObCost ⟨2, sg, at_, da, pt, el, n_, co⟩) (cy : ObCost ⟨2, sg', at', da', pt', el, n_, co'⟩) :
    Calls Tryd.prog 25 #[vPair A n c A' n' c', vOb ⟨2, sg, at_, da, pt, el, n_, co⟩, vOb ⟨2, sg', at', da', pt', el, n_, co'⟩] w (VPost w (.bool (plainE ss tt ⟨2, sg, at_, da, pt, el, n_, co⟩ ⟨2, sg', at', da', pt', el, n_, co'⟩))) := by
  have hmf := makeF
  have b1 : (el != el) = false := bne_f rfl
  have b2 : (n_ != n_) = false := bne_f rfl
  have b6 := beq_f e6
  have b7 := beq_f e7
  have H := Lib.hid h
  have H' := Lib.hid h'
  have HX := Lib.hid hx
  have HY := Lib.hid hy
  have HCx := Lib.hid cx
  have HCy := Lib.hid cy
  have HE7 := Lib.hid e7
  clear h h' hx hy cx cy e6 e7
  go_enter Tryd.func25, Tryd.ntmps25
  go_wp2_with (go_at_call 44; refine (plain_any (H.out.below (by (repeat (first | exact Below.refl _ _ | assumption | refine Below.setCell ?_ (by (try simp); (try omega)) _ | refine Below.alloc ?_ (by (try simp); (try omega)) _ | refine below_setRow ?_ (by (try simp); (try omega)) _ | refine pw_below_drewN ?_ _ | refine Below.drew ?_)))) (H'.out.below (by (repeat (first | exact Below.refl _ _ | assumption | refine Below.setCell ?_ (by (try simp); (try omega)) _ | refine Below.alloc ?_ (by (try simp); (try omega)) _ | refine below_setRow ?_ (by (try simp); (try omega)) _ | refine pw_below_drewN ?_ _ | refine Below.drew ?_)))) ⟨2, sg, at_, da, pt, el, n_, co⟩ ⟨2, sg', at', da', pt', el, n_, co'⟩ HX.out HY.out HCx.out HCy.out rfl rfl HE7.out HE7.out).mono ?_; rintro e w1 ⟨rfl, hb1⟩; have hB1 := below_step (w := w) (by (repeat (first | exact Below.refl _ _ | assumption | refine Below.setCell ?_ (by (try simp); (try omega)) _ | refine Below.alloc ?_ (by (try simp); (try omega)) _ | refine below_setRow ?_ (by (try simp); (try omega)) _ | refine pw_below_drewN ?_ _ | refine Below.drew ?_))) hb1)
  go_ret
  exact ⟨rfl, hB1⟩
end
end Go.Proofs.YtelghkgnkncnoaaDoor
/- Contracts of equal's pair.same, root, Messages. -/
set_option linter.unusedVariables false
set_option linter.unusedSimpArgs false
namespace Go.Proofs.YtelghkgnkncnoaaDoor
open Go.RowKit
theorem same_any : ∀ k, SameSaid k := by
  intro k
  induction k with
  | zero =>
    intro B B' w A A' n c n' c' ss tt x y h h' hx hy
    by_cases hd : x.kind ≠ y.kind ∨ x.elem ≠ y.elem ∨ x.n ≠ y.n
    · unfold sameV; rw [if_pos hd]
      exact same_diff x y hd
    · have kx : x.kind = 0 := by
        unfold OD at hx
        rcases hx with h | h
        · exact h
        · exact h.elim
      unfold sameV; rw [if_neg hd, if_pos kx]
      obtain ⟨kd, sg, at_, da, pt, el, n_, co⟩ := x
      obtain ⟨kd', sg', at', da', pt', el', n_', co'⟩ := y
      simp only [ne_eq, not_or, Decidable.not_not] at hd kx
      obtain ⟨d1, d2, d3⟩ := hd
      subst d1 d2 d3 kx
      exact same_null _ _ _ _ _ _ _ _ _ _ _ _
  | succ k ih =>
    intro B B' w A A' n c n' c' ss tt x y h h' hx hy
    by_cases hd : x.kind ≠ y.kind ∨ x.elem ≠ y.elem ∨ x.n ≠ y.n
    · unfold sameV; rw [if_pos hd]
      exact same_diff x y hd
    · unfold sameV; rw [if_neg hd]
      by_cases k0 : x.kind = 0
      · rw [if_pos k0]
        obtain ⟨kd, sg, at_, da, pt, el, n_, co⟩ := x
        obtain ⟨kd', sg', at', da', pt', el', n_', co'⟩ := y
        simp only [ne_eq, not_or, Decidable.not_not] at hd k0
        obtain ⟨d1, d2, d3⟩ := hd
        subst d1 d2 d3 k0
        exact same_null _ _ _ _ _ _ _ _ _ _ _ _
      · rw [if_neg k0]
        dsimp only
        have hx' : ObIn ss x ∧ ObCost x ∧ x.cost ≤ 1000000 ∧ DenOf (DenP ss k) x := by
          unfold OD at hx
          rcases hx with h | h
          · exact absurd h k0
          · exact h
        have hy' : ObIn tt y ∧ ObCost y ∧ y.cost ≤ 1000000 ∧ DenOf (DenP tt k) y := by
          unfold OD at hy
          rcases hy with h | h
          · simp only [ne_eq, not_or, Decidable.not_not] at hd; omega
          · exact h
        obtain ⟨ix, cx, mx, dx⟩ := hx'
        obtain ⟨iy, cy, my, dy⟩ := hy'
        have kx := ix.kind
        have nx := ix.n
        obtain ⟨kd, sg, at_, da, pt, el, n_, co⟩ := x
        obtain ⟨kd', sg', at', da', pt', el', n_', co'⟩ := y
        simp only [ne_eq, not_or, Decidable.not_not] at hd k0 kx nx
        obtain ⟨d1, d2, d3⟩ := hd
        subst d1 d2 d3
        by_cases k1 : kd = 1
        · subst k1
          rw [if_pos rfl]
          unfold DenOf at dx dy
          rw [if_neg (by simp)] at dx dy
          exact same_struct ih h h' sg at_ da pt el n_ co sg' at' da' pt' co' ix iy (objAt_od h.wf dx) (objAt_od h'.wf dy)
        · have k2 : kd = 2 := by omega
          subst k2
          rw [if_neg (by simp)]
          obtain ⟨N, rfl⟩ := Int.eq_ofNat_of_zero_le nx.1
          by_cases e7 : el = 7
          · subst e7
            rw [if_pos rfl]
            unfold DenOf at dx dy
            rw [if_pos (by simp)] at dx dy
            have hn := cx.count rfl rfl
            simp only at hn mx
            exact same_comp ih h h' sg at_ da pt co sg' at' da' pt' co' N (by omega) ix iy (fun j hj => objAt_od h.wf (dx j (by simp only; omega))) (fun j hj => objAt_od h'.wf (dy j (by simp only; omega)))
          · rw [if_neg e7]
            by_cases e6 : el = 6
            · subst e6
              rw [if_pos rfl]
              unfold DenOf at dx dy
              rw [if_neg (by simp)] at dx dy
              have hn := cx.words rfl (by simp)
              simp only [lwords, up, bitsI] at hn mx
              simp at hn
              exact same_ptrs ih h h' sg at_ da pt co sg' at' da' pt' co' N (by omega) ix iy (objAt_od h.wf dx) (objAt_od h'.wf dy)
            · rw [if_neg e6]
              exact same_plain h h' sg at_ da pt el N co sg' at' da' pt' co' e6 e7 ix iy cx cy
end Go.Proofs.YtelghkgnkncnoaaDoor
/- Contracts of equal's root, Messages. -/
set_option linter.unusedVariables false
set_option linter.unusedSimpArgs false
namespace Go.Proofs.YtelghkgnkncnoaaDoor
open Go.RowKit
set_option maxRecDepth 100000 in
theorem root_any {B : Nat} {w : World} {A : Option Addr} {n c : Nat} {ss : List (List Int)} (h : MsgIn B w A n ss) (hl : 0 < ss.length) :
    Calls Tryd.prog 26 #[.slice A n c] w (VPost w (vOb (rootV ss))) := by
  have hlen := h.segs.1
  obtain ⟨b, o', A', c', rfl, hb, hcell, _, _⟩ := h.segs.seg 0 (by omega) (by omega)
  rw [show (0 : Int).toNat = 0 from rfl] at hcell
  simp only [Nat.add_zero] at hcell
  obtain ⟨L, hL⟩ : ∃ L, L = (ss.getD 0 []).length := ⟨_, rfl⟩
  rw [← hL] at hcell
  have hbw : b < w.heap.size := by have := h.bound; omega
  have hn : 0 < n := by omega
  unfold rootV
  rw [← hL]
  have H := Lib.hid h
  clear h hlen hL hl
  by_cases hz : L = 0
  · subst hz
    rw [if_pos rfl]
    go_enter Tryd.func26, Tryd.ntmps26
    go_wp2
    refine bodyPost_ret (v := vOb Ob.zero) ((results_blk _ st_Object rfl _ (w.heap.size ) rfl (by simp [go_sem, Ob.zero]) (by simp [go_sem, Ob.zero])).trans (by simp [go_sem, Ob.zero]; try omega)) rfl ⟨rfl, ?_⟩
    (repeat (first | exact Below.refl _ _ | assumption | refine Below.setCell ?_ (by (try simp); (try omega)) _ | refine Below.alloc ?_ (by (try simp); (try omega)) _ | refine below_setRow ?_ (by (try simp); (try omega)) _ | refine pw_below_drewN ?_ _ | refine Below.drew ?_))
  · rw [if_neg hz]
    have bl : ((L : Int) == 0) = false := by simp; omega
    obtain ⟨X, hX⟩ : ∃ X, X = object ss 0 0 := ⟨_, rfl⟩
    have HX := Lib.hid hX
    rw [← hX]
    obtain ⟨x, xe⟩ := X
    clear hX
    go_enter Tryd.func26, Tryd.ntmps26
    go_wp2_with (go_at_call 48; refine (Object_any ((H.out.below (by (repeat (first | exact Below.refl _ _ | assumption | refine Below.setCell ?_ (by (try simp); (try omega)) _ | refine Below.alloc ?_ (by (try simp); (try omega)) _ | refine below_setRow ?_ (by (try simp); (try omega)) _ | refine pw_below_drewN ?_ _ | refine Below.drew ?_)))).env) ((H.out.below (by (repeat (first | exact Below.refl _ _ | assumption | refine Below.setCell ?_ (by (try simp); (try omega)) _ | refine Below.alloc ?_ (by (try simp); (try omega)) _ | refine below_setRow ?_ (by (try simp); (try omega)) _ | refine pw_below_drewN ?_ _ | refine Below.drew ?_)))).bound) ((H.out.below (by (repeat (first | exact Below.refl _ _ | assumption | refine Below.setCell ?_ (by (try simp); (try omega)) _ | refine Below.alloc ?_ (by (try simp); (try omega)) _ | refine below_setRow ?_ (by (try simp); (try omega)) _ | refine pw_below_drewN ?_ _ | refine Below.drew ?_)))).segs) H.out.wf _ _).mono ?_; rw [← HX.out]; rintro e w1 ⟨rfl, hb1⟩; have hB1 := below_step (w := w) (by (repeat (first | exact Below.refl _ _ | assumption | refine Below.setCell ?_ (by (try simp); (try omega)) _ | refine Below.alloc ?_ (by (try simp); (try omega)) _ | refine below_setRow ?_ (by (try simp); (try omega)) _ | refine pw_below_drewN ?_ _ | refine Below.drew ?_))) hb1; obtain ⟨hc1, hf1⟩ := bcell hb1; have hd1 := blk_below hb1; have hs1 := hB1.size; have hz1_0 : w.heap.size < w1.heap.size := (by have hq := hb1.size; (try simp at hq); omega); have hy1_0 : w.heap.size ≠ w1.heap.size := Nat.ne_of_lt hz1_0; have hk1_0 := hd1 (w.heap.size) (by (try simp); (try omega)); (try simp (disch := first | omega | (simp; omega)) only [blk_setRow_far, blk_alloc_past, blk_setCell_far, blk_drewN, blk_drew] at hk1_0); (try simp (disch := first | assumption | omega | (simp; done) | (simp; omega)) only [blk_setRow_far, blk_alloc_past, blk_alloc_new, blk_alloc_at, blk_setCell_far, blk_drewN, blk_drew] at hk1_0))
    refine bodyPost_ret (v := vOb x) ((results_blk _ st_Object rfl _ (w.heap.size ) rfl (by simp [go_sem, hk1_0, hz1_0, hy1_0]) (by simp [go_sem, hk1_0, hz1_0, hy1_0])).trans (by simp [go_sem, hk1_0, hz1_0, hy1_0]; try omega)) rfl ⟨rfl, ?_⟩
    (repeat (first | exact Below.refl _ _ | assumption | refine Below.setCell ?_ (by (try simp); (try omega)) _ | refine Below.alloc ?_ (by (try simp); (try omega)) _ | refine below_setRow ?_ (by (try simp); (try omega)) _ | refine pw_below_drewN ?_ _ | refine Below.drew ?_))
set_option maxRecDepth 100000 in
set_option maxHeartbeats 1000000 in
theorem Messages_any {B B' : Nat} {w : World} {A A' : Option Addr} {n c n' c' : Nat} {ss tt : List (List Int)} (h : MsgIn B w A n ss) (h' : MsgIn B' w A' n' tt) (d wl o : Int) (hd : d ≤ 1000000) (hwl : wl ≤ 1000000) :
    Calls Tryd.prog 11 #[.slice A n c, .slice A' n' c', vLim d wl o] w (VPost w (.tuple #[.bool (messagesV ss tt d wl).1, .int .i64 (messagesV ss tt d wl).2])) := by
  have H := Lib.hid h
  have H' := Lib.hid h'
  obtain ⟨m1, hm1⟩ : ∃ m, m = measureV ss d wl := ⟨_, rfl⟩
  obtain ⟨m2, hm2⟩ : ∃ m, m = measureV tt d wl := ⟨_, rfl⟩
  have HM1 := Lib.hid hm1
  have HM2 := Lib.hid hm2
  obtain ⟨R, hR⟩ : ∃ R, R = messagesV ss tt d wl := ⟨_, rfl⟩
  have HR := Lib.hid hR
  rw [← hR]
  obtain ⟨a1, e1⟩ := m1
  obtain ⟨a2, e2⟩ := m2
  clear h h' hm1 hm2 hR
  go_enter Tryd.func11, Tryd.ntmps11
  go_wp2
  go_loopw [16] (fun i wr => ∃ j : Nat, j ≤ 2 ∧ i = .int .i64 j ∧ (1 ≤ j → e1 = 0) ∧ (2 ≤ j → e2 = 0) ∧ Below w.heap.size w wr ∧ w.heap.size + 1 < wr.heap.size ∧
      blk wr w.heap.size = some (.cells #[.int .i64 d, .int .i64 wl, .int .i64 o] 24 (0, 0)) ∧ blk wr (w.heap.size + 1) = some (.cells #[.slice A n c, .slice A' n' c'] 22 (0, 0))) (fun i _ => 2 - (intOf i).toNat)
  case atStart => exact ⟨0, by omega, rfl, fun h => by omega, fun h => by omega, by (repeat (first | exact Below.refl _ _ | assumption | refine Below.setCell ?_ (by (try simp); (try omega)) _ | refine Below.alloc ?_ (by (try simp); (try omega)) _ | refine below_setRow ?_ (by (try simp); (try omega)) _ | refine pw_below_drewN ?_ _ | refine Below.drew ?_)), by simp, by go_simp, by go_simp⟩
  case round =>
    obtain ⟨j, hj, rfl, h1, h2, hbel, hsz, hk0, hk1⟩ := hrel
    have hl0 : w.heap.size < wr.heap.size := by omega
    have hl1 : w.heap.size + 1 < wr.heap.size := by omega
    have hjj : j = 0 ∨ j = 1 ∨ j = 2 := by omega
    rcases hjj with rfl | rfl | rfl
    · clear h1 h2
      by_cases he : e1 = 0
      · subst he
        go_wp2_with (go_at_call 24; refine (Measure_any (H.out.below (by (repeat (first | exact Below.refl _ _ | assumption | refine Below.setCell ?_ (by (try simp); (try omega)) _ | refine Below.alloc ?_ (by (try simp); (try omega)) _ | refine below_setRow ?_ (by (try simp); (try omega)) _ | refine pw_below_drewN ?_ _ | refine Below.drew ?_)))) d wl o hd hwl).mono ?_; rw [← HM1.out]; rintro e w1 ⟨rfl, hb1⟩; have hB1 := below_step (w := w) (by (repeat (first | exact Below.refl _ _ | assumption | refine Below.setCell ?_ (by (try simp); (try omega)) _ | refine Below.alloc ?_ (by (try simp); (try omega)) _ | refine below_setRow ?_ (by (try simp); (try omega)) _ | refine pw_below_drewN ?_ _ | refine Below.drew ?_))) hb1; have hd1 := blk_below hb1; have hk0' := (hd1 w.heap.size hl0).trans hk0; have hk1' := (hd1 (w.heap.size + 1) hl1).trans hk1; have hsz1 := hb1.size)
        go_roundw
        case rel => exact ⟨1, by omega, by first | rfl | go_num, by simp, fun h => by omega, hB1, by omega, hk0', hk1'⟩
        case measure => simp [intOf]
      · clear hsz
        have HF : Hid (R = (false, e1)) := by
          show R = _
          rw [HR.out]; unfold messagesV
          rw [← HM1.out, if_pos he]
        have hne : (e1 != 0) = true := by simpa using he
        go_wp2_with (go_at_call 24; refine (Measure_any (H.out.below (by (repeat (first | exact Below.refl _ _ | assumption | refine Below.setCell ?_ (by (try simp); (try omega)) _ | refine Below.alloc ?_ (by (try simp); (try omega)) _ | refine below_setRow ?_ (by (try simp); (try omega)) _ | refine pw_below_drewN ?_ _ | refine Below.drew ?_)))) d wl o hd hwl).mono ?_; rw [← HM1.out]; rintro e w1 ⟨rfl, hb1⟩; have hB1 := below_step (w := w) (by (repeat (first | exact Below.refl _ _ | assumption | refine Below.setCell ?_ (by (try simp); (try omega)) _ | refine Below.alloc ?_ (by (try simp); (try omega)) _ | refine below_setRow ?_ (by (try simp); (try omega)) _ | refine pw_below_drewN ?_ _ | refine Below.drew ?_))) hb1; have hd1 := blk_below hb1; have hk0' := (hd1 w.heap.size hl0).trans hk0; have hk1' := (hd1 (w.heap.size + 1) hl1).trans hk1; have hsz1 := hb1.size)
        go_ret2
        exact ⟨by rw [HF.out]; rfl, hB1⟩
    · have h1' := Lib.hid (h1 (by omega))
      clear h1 h2
      by_cases he : e2 = 0
      · subst he
        go_wp2_with (go_at_call 24; refine (Measure_any (H'.out.below (by (repeat (first | exact Below.refl _ _ | assumption | refine Below.setCell ?_ (by (try simp); (try omega)) _ | refine Below.alloc ?_ (by (try simp); (try omega)) _ | refine below_setRow ?_ (by (try simp); (try omega)) _ | refine pw_below_drewN ?_ _ | refine Below.drew ?_)))) d wl o hd hwl).mono ?_; rw [← HM2.out]; rintro e w1 ⟨rfl, hb1⟩; have hB1 := below_step (w := w) (by (repeat (first | exact Below.refl _ _ | assumption | refine Below.setCell ?_ (by (try simp); (try omega)) _ | refine Below.alloc ?_ (by (try simp); (try omega)) _ | refine below_setRow ?_ (by (try simp); (try omega)) _ | refine pw_below_drewN ?_ _ | refine Below.drew ?_))) hb1; have hd1 := blk_below hb1; have hk0' := (hd1 w.heap.size hl0).trans hk0; have hk1' := (hd1 (w.heap.size + 1) hl1).trans hk1; have hsz1 := hb1.size)
        go_roundw
        case rel => exact ⟨2, by omega, by first | rfl | go_num, fun _ => h1'.out, by simp, hB1, by omega, hk0', hk1'⟩
        case measure => simp [intOf]
      · clear hsz
        have HF : Hid (R = (false, e2)) := by
          show R = _
          rw [HR.out]; unfold messagesV
          rw [← HM1.out, if_neg (by simpa using h1'.out), ← HM2.out, if_pos he]
        have hne : (e2 != 0) = true := by simpa using he
        go_wp2_with (go_at_call 24; refine (Measure_any (H'.out.below (by (repeat (first | exact Below.refl _ _ | assumption | refine Below.setCell ?_ (by (try simp); (try omega)) _ | refine Below.alloc ?_ (by (try simp); (try omega)) _ | refine below_setRow ?_ (by (try simp); (try omega)) _ | refine pw_below_drewN ?_ _ | refine Below.drew ?_)))) d wl o hd hwl).mono ?_; rw [← HM2.out]; rintro e w1 ⟨rfl, hb1⟩; have hB1 := below_step (w := w) (by (repeat (first | exact Below.refl _ _ | assumption | refine Below.setCell ?_ (by (try simp); (try omega)) _ | refine Below.alloc ?_ (by (try simp); (try omega)) _ | refine below_setRow ?_ (by (try simp); (try omega)) _ | refine pw_below_drewN ?_ _ | refine Below.drew ?_))) hb1; have hd1 := blk_below hb1; have hk0' := (hd1 w.heap.size hl0).trans hk0; have hk1' := (hd1 (w.heap.size + 1) hl1).trans hk1; have hsz1 := hb1.size)
        go_ret2
        exact ⟨by rw [HF.out]; rfl, hB1⟩
    · have h1' : e1 = 0 := h1 (by omega)
      have h2' : e2 = 0 := h2 (by omega)
      have HF : Hid (R = (sameV ss tt d.toNat (rootV ss) (rootV tt), 0)) := by
        show R = _
        rw [HR.out]; unfold messagesV
        rw [← HM1.out, if_neg (by simpa using h1'), ← HM2.out, if_neg (by simpa using h2')]
      have q1 := Lib.hid (measureV_root H.out.wf hwl (by rw [← HM1.out]; exact h1'))
      have q2 := Lib.hid (measureV_root H'.out.wf hwl (by rw [← HM2.out]; exact h2'))
      clear h1 h2 h1' h2'
      go_wp2_with fail
      refine (root_any (H.out.below (by (repeat (first | exact Below.refl _ _ | assumption | refine Below.setCell ?_ (by (try simp); (try omega)) _ | refine Below.alloc ?_ (by (try simp); (try omega)) _ | refine below_setRow ?_ (by (try simp); (try omega)) _ | refine pw_below_drewN ?_ _ | refine Below.drew ?_)))) q1.out.1).mono ?_
      rintro e w1 ⟨rfl, hb1⟩
      have hB1 := below_step (w := w) (by (repeat (first | exact Below.refl _ _ | assumption | refine Below.setCell ?_ (by (try simp); (try omega)) _ | refine Below.alloc ?_ (by (try simp); (try omega)) _ | refine below_setRow ?_ (by (try simp); (try omega)) _ | refine pw_below_drewN ?_ _ | refine Below.drew ?_))) hb1
      go_wp2_with fail
      refine (root_any (H'.out.below (by (repeat (first | exact Below.refl _ _ | assumption | refine Below.setCell ?_ (by (try simp); (try omega)) _ | refine Below.alloc ?_ (by (try simp); (try omega)) _ | refine below_setRow ?_ (by (try simp); (try omega)) _ | refine pw_below_drewN ?_ _ | refine Below.drew ?_)))) q2.out.1).mono ?_
      rintro e w2 ⟨rfl, hb2⟩
      have hB2 := below_step (w := w) (by (repeat (first | exact Below.refl _ _ | assumption | refine Below.setCell ?_ (by (try simp); (try omega)) _ | refine Below.alloc ?_ (by (try simp); (try omega)) _ | refine below_setRow ?_ (by (try simp); (try omega)) _ | refine pw_below_drewN ?_ _ | refine Below.drew ?_))) hb2
      go_wp2_with fail
      refine (same_any d.toNat (H.out.below (by (repeat (first | exact Below.refl _ _ | assumption | refine Below.setCell ?_ (by (try simp); (try omega)) _ | refine Below.alloc ?_ (by (try simp); (try omega)) _ | refine below_setRow ?_ (by (try simp); (try omega)) _ | refine pw_below_drewN ?_ _ | refine Below.drew ?_)))) (H'.out.below (by (repeat (first | exact Below.refl _ _ | assumption | refine Below.setCell ?_ (by (try simp); (try omega)) _ | refine Below.alloc ?_ (by (try simp); (try omega)) _ | refine below_setRow ?_ (by (try simp); (try omega)) _ | refine pw_below_drewN ?_ _ | refine Below.drew ?_)))) q1.out.2 q2.out.2).mono ?_
      rintro e w3 ⟨rfl, hb3⟩
      have hB3 := below_step (w := w) (by (repeat (first | exact Below.refl _ _ | assumption | refine Below.setCell ?_ (by (try simp); (try omega)) _ | refine Below.alloc ?_ (by (try simp); (try omega)) _ | refine below_setRow ?_ (by (try simp); (try omega)) _ | refine pw_below_drewN ?_ _ | refine Below.drew ?_))) hb3
      go_wp2_with fail
      go_ret2
      exact ⟨by rw [HF.out]; rfl, hB3⟩
end Go.Proofs.YtelghkgnkncnoaaDoor
