/- A part of the proof: the texts W20 W21 W22 W23 joined. -/
import Derived.Test.YtelghkgnkncnoaaDoorNb
import Derived.Defers
import Derived.Recover
import Derived.WideLaws
/- Contract of denote's reader.value where it comes to a struct. -/
set_option linter.unusedVariables false
set_option linter.unusedSimpArgs false
namespace Go.Proofs.YtelghkgnkncnoaaDoor
open Go.RowKit
theorem five_cells {a b c d e : Value} (h : ∀ v ∈ [a, b, c, d, e], v.oneCell' = true) : a.oneCell' = true ∧ b.oneCell' = true ∧ c.oneCell' = true ∧ d.oneCell' = true ∧ e.oneCell' = true :=
  ⟨h a (by simp), h b (by simp), h c (by simp), h d (by simp), h e (by simp)⟩
section
variable {B R : Nat} {w : World} {A : Option Addr} {n c : Nat} {ss : List (List Int)} {dl wl ol m : Int}
set_option maxRecDepth 100000 in
set_option maxHeartbeats 1000000 in
theorem value_struct {k : Nat} (hV : ValueSaid k) (h : RdIn B R w A n c ss dl wl ol m) (seg at_ d : Int) (d0 : 0 ≤ d) (hd : d ≤ dl) (hk : k = (dl + 1 - (d + 1)).toNat) (he : (follow ss seg at_).err = 0) (hz : (follow ss seg at_).w ≠ 0) (ho : (object ss seg at_).2 = 0) (hi : ObIn ss (object ss seg at_).1) (hc : ObCost (object ss seg at_).1) (hm : ¬ m < (object ss seg at_).1.cost) (hk1 : (object ss seg at_).1.kind = 1) :
    Calls Tryd.prog 70 #[.pointer (some ⟨R, 0, none⟩), .int .i64 seg, .int .i64 at_, .int .i64 d] w (NPost w R (rdC A n c dl wl ol) (objV ss (valueV ss k) (object ss seg at_).1 (m - (object ss seg at_).1.cost))) := by
  have HV := Lib.hid hV
  have HK := Lib.hid hk
  have H := Lib.hid h
  have hr := h.row
  have HR := Lib.hid h.row
  have hRw := h.lt
  have hdn : ¬ dl < d := by omega
  have m0 := h.m0
  have m1 := h.m1
  have d1 : d ≤ 1000000 := by have := h.d1; omega
  unfold rdr at hr
  generalize hF : follow ss seg at_ = F at *
  generalize hO : object ss seg at_ = O at *
  have HF := Lib.hid hF
  have HOb := Lib.hid hO
  obtain ⟨fw, fs, fb, fe⟩ := F
  obtain ⟨o, oe⟩ := O
  simp only at he hz ho hm hc hi hk1
  have c0 := hc.low
  have c1 := hc.high
  subst he ho
  have bz : (fw == 0) = false := by simpa using hz
  have bk : (o.kind == 1) = true := by simpa using hk1
  have HI := Lib.hid hi
  have HC := Lib.hid hc
  have HK1 := Lib.hid hk1
  obtain ⟨res, hres⟩ : ∃ r, r = objV ss (valueV ss k) o (m - o.cost) := ⟨_, rfl⟩
  have HRes := Lib.hid hres
  show Calls _ _ _ _ (NPost w R (rdC A n c dl wl ol) (objV ss (valueV ss k) o (m - o.cost)))
  rw [← hres]
  clear hV h hF hO hc hk hi hres hk1
  go_enter Tryd.func70, Tryd.ntmps70
  go_wp2_with (first | (go_at_call 77; refine ((H.out.same (by (repeat (first | exact Below.refl _ _ | assumption | refine Below.setCell ?_ (by (try simp); (try omega)) _ | refine Below.alloc ?_ (by (try simp); (try omega)) _ | refine below_setRow ?_ (by (try simp); (try omega)) _ | refine pw_below_drewN ?_ _ | refine Below.drew ?_)))).follow _ _).mono ?_; rw [HF.out]; rintro e w1 ⟨rfl, hb1⟩; have hB1 := below_step (w := w) (by (repeat (first | exact Below.refl _ _ | assumption | refine Below.setCell ?_ (by (try simp); (try omega)) _ | refine Below.alloc ?_ (by (try simp); (try omega)) _ | refine below_setRow ?_ (by (try simp); (try omega)) _ | refine pw_below_drewN ?_ _ | refine Below.drew ?_))) hb1; obtain ⟨hc1, hf1⟩ := bcell hb1; have hd1 := blk_below hb1; have hs1 := hB1.size; have hz1_0 : w.heap.size < w1.heap.size := (by have hq := hb1.size; (try simp at hq); omega); have hy1_0 : w.heap.size ≠ w1.heap.size := Nat.ne_of_lt hz1_0; have hk1_0 := hd1 (w.heap.size) (by (try simp); (try omega)); (try simp (disch := first | omega | (simp; omega)) only [blk_setRow_far, blk_alloc_past, blk_setCell_far, blk_drewN, blk_drew] at hk1_0); have hkR1 := hd1 R (by (try simp); (try omega)); (try simp (disch := first | assumption | omega | (simp; omega)) only [blk_setRow_far, blk_alloc_past, blk_setCell_far, blk_drewN, blk_drew] at hkR1); (try rw [hr] at hkR1); (try simp (disch := first | assumption | omega | (simp; done) | (simp; omega)) only [blk_setRow_far, blk_alloc_past, blk_alloc_new, blk_alloc_at, blk_setCell_far, blk_drewN, blk_drew] at hk1_0)) | (go_at_call 120; (with_reducible refine (check_ok _).mono ?_); rintro e w2 ⟨rfl, hw2⟩; subst hw2) | (go_at_call 78; refine (IsNull_any _ _).mono ?_; rintro e w2 ⟨rfl, hw2⟩; subst w2) | (go_at_call 121; refine (Enter_any _ _ _ _ _).mono ?_; rintro e w2 ⟨rfl, hb2⟩; have hB2 := below_step (w := w) (by (repeat (first | exact Below.refl _ _ | assumption | refine Below.setCell ?_ (by (try simp); (try omega)) _ | refine Below.alloc ?_ (by (try simp); (try omega)) _ | refine below_setRow ?_ (by (try simp); (try omega)) _ | refine pw_below_drewN ?_ _ | refine Below.drew ?_))) hb2; obtain ⟨hc2, hf2⟩ := bcell hb2; have hd2 := blk_below hb2; have hs2 := hB2.size; have hz2_0 : w.heap.size < w2.heap.size := (by have hq := hb2.size; (try simp at hq); omega); have hy2_0 : w.heap.size ≠ w2.heap.size := Nat.ne_of_lt hz2_0; have hk2_0 := hd2 (w.heap.size) (by (try simp); (try omega)); (try simp (disch := first | omega | (simp; omega)) only [blk_setRow_far, blk_alloc_past, blk_setCell_far, blk_drewN, blk_drew] at hk2_0); have hkR2 := hd2 R (by (try simp); (try omega)); (try simp (disch := first | assumption | omega | (simp; omega)) only [blk_setRow_far, blk_alloc_past, blk_setCell_far, blk_drewN, blk_drew] at hkR2); (try rw [hr] at hkR2); (try rw [hkR1] at hkR2); (try simp (disch := first | assumption | omega | (simp; done) | (simp; omega)) only [blk_setRow_far, blk_alloc_past, blk_alloc_new, blk_alloc_at, blk_setCell_far, blk_drewN, blk_drew] at hk2_0)) | (go_at_call 48; refine ((H.out.same hB2).obj _ _).mono ?_; rw [HOb.out]; rintro e w3 ⟨rfl, hb3⟩; have hB3 := below_step (w := w) (by (repeat (first | exact Below.refl _ _ | assumption | refine Below.setCell ?_ (by (try simp); (try omega)) _ | refine Below.alloc ?_ (by (try simp); (try omega)) _ | refine below_setRow ?_ (by (try simp); (try omega)) _ | refine pw_below_drewN ?_ _ | refine Below.drew ?_))) hb3; obtain ⟨hc3, hf3⟩ := bcell hb3; have hd3 := blk_below hb3; have hs3 := hB3.size; have hz3_0 : w.heap.size < w3.heap.size := (by have hq := hb3.size; (try simp at hq); omega); have hy3_0 : w.heap.size ≠ w3.heap.size := Nat.ne_of_lt hz3_0; have hk3_0 := hd3 (w.heap.size) (by (try simp); (try omega)); (try simp (disch := first | omega | (simp; omega)) only [blk_setRow_far, blk_alloc_past, blk_setCell_far, blk_drewN, blk_drew] at hk3_0); have hkR3 := hd3 R (by (try simp); (try omega)); (try simp (disch := first | assumption | omega | (simp; omega)) only [blk_setRow_far, blk_alloc_past, blk_setCell_far, blk_drewN, blk_drew] at hkR3); (try rw [hr] at hkR3); (try rw [hkR2] at hkR3); (try rw [hkR1] at hkR3); (try simp (disch := first | assumption | omega | (simp; done) | (simp; omega)) only [blk_setRow_far, blk_alloc_past, blk_alloc_new, blk_alloc_at, blk_setCell_far, blk_drewN, blk_drew] at hk3_0); have hR3 : R < w3.heap.size + 1 := (by have hq := hB3.size; omega); have hR3' : R ≠ w3.heap.size := (by have hq := hB3.size; omega)))
  obtain ⟨w4, hw4⟩ : ∃ w4, w4 = (w3.alloc (.cells #[.int .i64 0, .int .i64 0, .int .i64 0, .int .i64 0, .int .i64 0, .int .i64 0, .int .i64 0, .int .i64 0] 61)).setRow w3.heap.size #[.int .i64 o.kind, .int .i64 o.seg, .int .i64 o.at_, .int .i64 o.data, .int .i64 o.ptrs, .int .i64 o.elem, .int .i64 o.n, .int .i64 o.cost] := ⟨_, rfl⟩
  have hs3' := hB3.size
  have hs4 : w4.heap.size = w3.heap.size + 1 := by rw [hw4]; simp [World.setRow]
  have hb4 : Below w3.heap.size w3 w4 := by rw [hw4]; exact below_setRow ((Below.refl _ _).alloc (Nat.le_refl _) _) (Nat.le_refl _) _
  have hkR4 : blk w4 R = rdC A n c dl wl ol m := (blk_below hb4 R (by omega)).trans hkR3
  have hkO4 : blk w4 w3.heap.size = some (.cells #[.int .i64 o.kind, .int .i64 o.seg, .int .i64 o.at_, .int .i64 o.data, .int .i64 o.ptrs, .int .i64 o.elem, .int .i64 o.n, .int .i64 o.cost] 61 (0, 0)) := by
    rw [hw4, blk_setRow_at, blk_alloc_new]; rfl
  have hkZ4 := (blk_below hb4 w.heap.size (by omega)).trans hk3_0
  rw [← hw4]
  have hRr : R < w4.heap.size := by omega
  have HB4 := Lib.hid (hB3.trans (hb4.mono hs3'))
  clear hw4 hb4
  refine wp_region_inv' 14 mixed (by kernel_rfl) (SInv (w4) R (rdC A n c dl wl ol m) (rdC A n c dl wl ol (m - o.cost)) 14 13 (fun i => match i with | 0 => .pointer (some ⟨R, 0, none⟩) | 1 => .pointer (some ⟨R, 0, none⟩) | 2 => .pointer (some ⟨R, 0, none⟩) | 3 => .pointer (some ⟨R, 4, none⟩) | 4 => .agg #[.int .i64 m] | 5 => .pointer (some ⟨w3.heap.size, 7, none⟩) | 6 => .int .i64 o.cost | 7 => .tuple #[.agg #[.int .i64 (m - o.cost)], .int .i64 0] | 8 => .tuple #[.agg #[.int .i64 (m - o.cost)], .int .i64 0] | 9 => .agg #[.int .i64 (m - o.cost)] | 10 => .int .i64 0 | 11 => .pointer (some ⟨R, 0, none⟩) | 12 => .pointer (some ⟨R, 4, none⟩) | _ => undef)) ?_ ?_ ?_
  · intro L vs hL0
    exact ⟨(But.refl _ _ _).drew, (fun _ => by first | assumption | exact hkR'.out), (fun h7 => by rw [hL0 13 (by omega)] at h7; cases h7), (fun i hi _ h7 => by rw [hL0 i (by omega)] at h7; cases h7)⟩
  · intro i hi a W hdf hag L hcl hl hn hI
    have Hdf := Lib.hid hdf; clear hdf; have Hcl := Lib.hid hcl; clear hcl
    have hkW3 := (hI.but.block w3.heap.size (by omega) (by omega)).trans hkO4
    have hi' : i = 0 ∨ i = 1 ∨ i = 2 ∨ i = 3 ∨ i = 4 ∨ i = 5 ∨ i = 6 ∨ i = 7 ∨ i = 8 ∨ i = 9 ∨ i = 10 ∨ i = 11 ∨ i = 12 ∨ i = 13 := by omega
    rcases hi' with rfl | rfl | rfl | rfl | rfl | rfl | rfl | rfl | rfl | rfl | rfl | rfl | rfl | rfl
    · have e0 := hag 0 rfl; have E0 := e0; rw [Array.getD_eq_getD_getElem?] at E0; (try have hkR' := hI.before (not_yet Hcl.out hl (by decide) rfl); unfold rdC rdr at hkR'); refine InvOp.of _ rfl rfl _ rfl fun K hK => ?_
      go_simp
      exact hK _ _ (hI.quiet hRr (by omega) (by omega) (Below.refl _ _))
    · have e0 := hag 0 rfl; have E0 := e0; rw [Array.getD_eq_getD_getElem?] at E0; (try have hkR' := hI.before (not_yet Hcl.out hl (by decide) rfl); unfold rdC rdr at hkR'); refine InvOp.of _ rfl rfl _ rfl fun K hK => ?_
      go_simp
      exact hK _ _ (hI.quiet hRr (by omega) (by omega) (Below.refl _ _))
    · have e52 : a.tmps.getD 52 undef = .pointer (some ⟨R, 0, none⟩) := hI.vals 1 (by omega) (by omega) (hn 1 rfl); have E52 := e52; rw [Array.getD_eq_getD_getElem?] at E52; (try have hkR' := hI.before (not_yet Hcl.out hl (by decide) rfl); unfold rdC rdr at hkR'); refine InvOp.of _ rfl rfl _ rfl fun K hK => ?_
      go_simp
      exact hK _ _ (hI.quiet hRr (by omega) (by omega) (Below.refl _ _))
    · have e53 : a.tmps.getD 53 undef = .pointer (some ⟨R, 0, none⟩) := hI.vals 2 (by omega) (by omega) (hn 2 rfl); have E53 := e53; rw [Array.getD_eq_getD_getElem?] at E53; (try have hkR' := hI.before (not_yet Hcl.out hl (by decide) rfl); unfold rdC rdr at hkR'); refine InvOp.of _ rfl rfl _ rfl fun K hK => ?_
      go_simp
      exact hK _ _ (hI.quiet hRr (by omega) (by omega) (Below.refl _ _))
    · have e54 : a.tmps.getD 54 undef = .pointer (some ⟨R, 4, none⟩) := hI.vals 3 (by omega) (by omega) (hn 3 rfl); have E54 := e54; rw [Array.getD_eq_getD_getElem?] at E54; (try have hkR' := hI.before (not_yet Hcl.out hl (by decide) rfl); unfold rdC rdr at hkR'); refine InvOp.of _ rfl rfl _ rfl fun K hK => ?_
      go_simp
      exact hK _ _ (hI.quiet hRr (by omega) (by omega) (Below.refl _ _))
    · have e13 := hag 13 rfl; have E13 := e13; rw [Array.getD_eq_getD_getElem?] at E13; (try have hkR' := hI.before (not_yet Hcl.out hl (by decide) rfl); unfold rdC rdr at hkR'); refine InvOp.of _ rfl rfl _ rfl fun K hK => ?_
      go_simp
      exact hK _ _ (hI.quiet hRr (by omega) (by omega) (Below.refl _ _))
    · have e56 : a.tmps.getD 56 undef = .pointer (some ⟨w3.heap.size, 7, none⟩) := hI.vals 5 (by omega) (by omega) (hn 5 rfl); have E56 := e56; rw [Array.getD_eq_getD_getElem?] at E56; (try have hkR' := hI.before (not_yet Hcl.out hl (by decide) rfl); unfold rdC rdr at hkR'); refine InvOp.of _ rfl rfl _ rfl fun K hK => ?_
      go_simp
      exact hK _ _ (hI.quiet hRr (by omega) (by omega) (Below.refl _ _))
    · have e55 : a.tmps.getD 55 undef = .agg #[.int .i64 m] := hI.vals 4 (by omega) (by omega) (hn 4 rfl); have E55 := e55; rw [Array.getD_eq_getD_getElem?] at E55; have e57 : a.tmps.getD 57 undef = .int .i64 o.cost := hI.vals 6 (by omega) (by omega) (hn 6 rfl); have E57 := e57; rw [Array.getD_eq_getD_getElem?] at E57; (try have hkR' := hI.before (not_yet Hcl.out hl (by decide) rfl); unfold rdC rdr at hkR'); refine InvOp.of _ rfl rfl _ rfl fun K hK => ?_
      go_simp
      refine (charge_rich m o.cost W m0 (by omega) c0 (by omega) (by omega)).mono ?_; rintro e w' ⟨rfl, hb⟩; exact hK _ _ (hI.quiet hRr (by omega) (by omega) hb)
    · have e58 : a.tmps.getD 58 undef = .tuple #[.agg #[.int .i64 (m - o.cost)], .int .i64 0] := hI.vals 7 (by omega) (by omega) (hn 7 rfl); have E58 := e58; rw [Array.getD_eq_getD_getElem?] at E58; (try have hkR' := hI.before (not_yet Hcl.out hl (by decide) rfl); unfold rdC rdr at hkR'); refine InvOp.of _ rfl rfl _ rfl fun K hK => ?_
      go_simp
      exact hK _ _ (hI.quiet hRr (by omega) (by omega) (Below.refl _ _))
    · have e50 : a.tmps.getD 50 undef = .tuple #[.agg #[.int .i64 (m - o.cost)], .int .i64 0] := hI.vals 8 (by omega) (by omega) (hn 8 rfl); have E50 := e50; rw [Array.getD_eq_getD_getElem?] at E50; (try have hkR' := hI.before (not_yet Hcl.out hl (by decide) rfl); unfold rdC rdr at hkR'); refine InvOp.of _ rfl rfl _ rfl fun K hK => ?_
      go_simp
      exact hK _ _ (hI.quiet hRr (by omega) (by omega) (Below.refl _ _))
    · have e50 : a.tmps.getD 50 undef = .tuple #[.agg #[.int .i64 (m - o.cost)], .int .i64 0] := hI.vals 8 (by omega) (by omega) (hn 8 rfl); have E50 := e50; rw [Array.getD_eq_getD_getElem?] at E50; (try have hkR' := hI.before (not_yet Hcl.out hl (by decide) rfl); unfold rdC rdr at hkR'); refine InvOp.of _ rfl rfl _ rfl fun K hK => ?_
      go_simp
      exact hK _ _ (hI.quiet hRr (by omega) (by omega) (Below.refl _ _))
    · have e51 : a.tmps.getD 51 undef = .pointer (some ⟨R, 0, none⟩) := hI.vals 0 (by omega) (by omega) (hn 0 rfl); have E51 := e51; rw [Array.getD_eq_getD_getElem?] at E51; (try have hkR' := hI.before (not_yet Hcl.out hl (by decide) rfl); unfold rdC rdr at hkR'); refine InvOp.of _ rfl rfl _ rfl fun K hK => ?_
      go_simp
      exact hK _ _ (hI.quiet hRr (by omega) (by omega) (Below.refl _ _))
    · have e61 : a.tmps.getD 61 undef = .pointer (some ⟨R, 0, none⟩) := hI.vals 11 (by omega) (by omega) (hn 11 rfl); have E61 := e61; rw [Array.getD_eq_getD_getElem?] at E61; (try have hkR' := hI.before (not_yet Hcl.out hl (by decide) rfl); unfold rdC rdr at hkR'); refine InvOp.of _ rfl rfl _ rfl fun K hK => ?_
      go_simp
      exact hK _ _ (hI.quiet hRr (by omega) (by omega) (Below.refl _ _))
    · have e62 : a.tmps.getD 62 undef = .pointer (some ⟨R, 4, none⟩) := hI.vals 12 (by omega) (by omega) (hn 12 rfl); have E62 := e62; rw [Array.getD_eq_getD_getElem?] at E62; have e59 : a.tmps.getD 59 undef = .agg #[.int .i64 (m - o.cost)] := hI.vals 9 (by omega) (by omega) (hn 9 rfl); have E59 := e59; rw [Array.getD_eq_getD_getElem?] at E59; have hkR' := hI.before hl; (try unfold rdC rdr at hkR'); refine InvOp.ofNone _ rfl rfl rfl fun K hK => ?_
      go_simp
      exact hK _ (hI.store hl (But.setCell (p := ⟨R, _, none⟩) (But.refl _ _ _) (.inr rfl) _) (by rw [blk_setCell_at, hkR']; rfl))
  · intro vs W L hall hI
    have e0 := hI.vals 0 (by omega) (by omega) (hall 0 (by omega))
    have e1 := hI.vals 1 (by omega) (by omega) (hall 1 (by omega))
    have e2 := hI.vals 2 (by omega) (by omega) (hall 2 (by omega))
    have e3 := hI.vals 3 (by omega) (by omega) (hall 3 (by omega))
    have e4 := hI.vals 4 (by omega) (by omega) (hall 4 (by omega))
    have e5 := hI.vals 5 (by omega) (by omega) (hall 5 (by omega))
    have e6 := hI.vals 6 (by omega) (by omega) (hall 6 (by omega))
    have e7 := hI.vals 7 (by omega) (by omega) (hall 7 (by omega))
    have e8 := hI.vals 8 (by omega) (by omega) (hall 8 (by omega))
    have e9 := hI.vals 9 (by omega) (by omega) (hall 9 (by omega))
    have e10 := hI.vals 10 (by omega) (by omega) (hall 10 (by omega))
    have e11 := hI.vals 11 (by omega) (by omega) (hall 11 (by omega))
    have e12 := hI.vals 12 (by omega) (by omega) (hall 12 (by omega))
    try dsimp only at e0 e1 e2 e3 e4 e5 e6 e7 e8 e9 e10 e11 e12
    simp only [putAll, slotOf, Option.bind_some, Act.put, List.getElem?_toArray, List.getElem?_cons_zero, List.getElem?_cons_succ, List.setIfInBounds_toArray, List.set_cons_zero, List.set_cons_succ, e0, e1, e2, e3, e4, e5, e6, e7, e8, e9, e10, e11, e12, List.drop_succ_cons, List.drop_zero]
    have hkR' := hI.after (hall 13 (by omega)); have HBw := Lib.hid hI.but; have hsW := hI.but.size; have hkW3 := (hI.but.block w3.heap.size (by omega) (by omega)).trans hkO4; clear e0 e1 e2 e3 e4 e5 e6 e7 e8 e9 e10 e11 e12 hI hall
    have H5 : Hid (RdIn B R W A n c ss dl wl ol (m - o.cost)) := H.out.next ((But.of HB4.out).trans (HBw.out.mono (by have := HB4.out.size; omega))) hkR' (by omega) (by omega)
    have hkZ5 := (HBw.out.block w.heap.size (by omega) (by omega)).trans hkZ4
    have hkO5 := (HBw.out.block w3.heap.size (by omega) (by omega)).trans hkO4
    have hlt5 : w.heap.size < W.heap.size := by omega
    have hlt6 : w3.heap.size < W.heap.size := by omega
    have HBZ := Lib.hid ((But.of (R := R) HB4.out).trans (HBw.out.mono (by have := HB4.out.size; omega)))
    clear hkR' hkR4
    cases res with
    | error e =>
      go_wp2_with (first | (go_at_call 120; (with_reducible refine (check_ok _).mono ?_); rintro e w5 ⟨rfl, hw2⟩; subst hw2) | (go_at_call 123; refine (rstructure_any HV.out H5.out o HI.out HK1.out d d0 d1 HK.out).mono ?_; rw [show structV ss (valueV ss k) o (m - o.cost) = _ from (show objV ss (valueV ss k) o (m - o.cost) = structV ss (valueV ss k) o (m - o.cost) from by unfold objV; rw [if_pos HK1.out]).symm.trans HRes.out.symm]; rintro e w5 ⟨rfl, hb5⟩))
      exact ⟨rfl, rfl, HBZ.out.trans (hb5.mono (by omega))⟩
    | ok r =>
      obtain ⟨x, m'⟩ := r
      go_wp2_with (first | (go_at_call 120; (with_reducible refine (check_ok _).mono ?_); rintro e w5 ⟨rfl, hw2⟩; subst hw2) | (go_at_call 123; refine (rstructure_any HV.out H5.out o HI.out HK1.out d d0 d1 HK.out).mono ?_; rw [show structV ss (valueV ss k) o (m - o.cost) = _ from (show objV ss (valueV ss k) o (m - o.cost) = structV ss (valueV ss k) o (m - o.cost) from by unfold objV; rw [if_pos HK1.out]).symm.trans HRes.out.symm]; rintro e w5 ⟨cs, rfl, hx, hb5, hr5⟩; have HX := Lib.hid hx; have HR5 := Lib.hid hr5; obtain ⟨kk, ee, nn, dd, ll⟩ := x; obtain ⟨A1, dc, A2, kc, rfl, hq⟩ := hx; clear hq hr5; have hkZ6 := (hb5.block w.heap.size hlt5 (by omega)).trans hkZ5; have hs5 := hb5.size; have HB5 := Lib.hid hb5))
      refine bodyPost_ret (v := .agg #[.int .i64 kk, .int .i64 ee, .int .i64 nn, .slice A1 dd.length dc, .slice A2 ll.length kc]) ((results_blk _ st_Node rfl _ (w.heap.size ) rfl (by simp [go_sem, hkZ6, hk3_0, hk2_0, hk1_0]) (by simp [go_sem, hkZ6, hk3_0, hk2_0, hk1_0])).trans (by simp [go_sem, hkZ6, hk3_0, hk2_0, hk1_0]; try omega)) rfl ?_
      refine ⟨_, rfl, HX.out.mono (fun b hb => ⟨by have := hb.1; omega, by simp [World.setRow]; exact hb.2⟩) (fun b hb => blk_setRow_far _ _ _ _ (by have := hb.1; omega)), ?_, ?_⟩
      · exact (HBZ.out.trans (HB5.out.mono (by omega))).setRow (by omega) _
      · rw [blk_setRow_far _ _ _ _ (by omega)]; exact HR5.out
end
end Go.Proofs.YtelghkgnkncnoaaDoor
/- Contract of denote's reader.value. -/
set_option linter.unusedVariables false
set_option linter.unusedSimpArgs false
namespace Go.Proofs.YtelghkgnkncnoaaDoor
open Go.RowKit
section
variable {B R : Nat} {w : World} {A : Option Addr} {n c : Nat} {ss : List (List Int)} {dl wl ol m : Int}
theorem rlist_any {k : Nat} (hV : ValueSaid k) (h : RdIn B R w A n c ss dl wl ol m) (o : Ob) (ho : ObIn ss o) (hc : ObCost o) (hk2 : o.kind = 2) (hcm : o.cost ≤ 1000000) (d : Int) (d0 : 0 ≤ d) (d1 : d ≤ 1000000) (hk : k = (dl + 1 - (d + 1)).toNat) :
    Calls Tryd.prog 124 #[.pointer (some ⟨R, 0, none⟩), vOb o, .int .i64 d] w (NPost w R (rdC A n c dl wl ol) (listV ss (valueV ss k) o m)) := by
  by_cases h6 : o.elem = 6
  · obtain ⟨kd, sg, at_, da, pt, el, n_, co⟩ := o
    simp only at h6
    subst h6
    exact rlist_ptr hV h kd sg at_ da pt n_ co ho d d0 d1 hk
  · by_cases h7 : o.elem = 7
    · have hn := hc.count hk2 h7
      have hn0 := ho.n
      obtain ⟨kd, sg, at_, da, pt, el, n_, co⟩ := o
      simp only at h7 hk2 hn hn0 hcm
      subst h7 hk2
      obtain ⟨N, rfl⟩ := Int.eq_ofNat_of_zero_le hn0.1
      exact rlist_comp hV h sg at_ da pt N co ho (by omega) d d0 d1 hk
    · exact rlist_plain h o ho hc hk2 h6 h7 d
set_option maxRecDepth 100000 in
set_option maxHeartbeats 1000000 in
theorem value_list {k : Nat} (hV : ValueSaid k) (h : RdIn B R w A n c ss dl wl ol m) (seg at_ d : Int) (d0 : 0 ≤ d) (hd : d ≤ dl) (hk : k = (dl + 1 - (d + 1)).toNat) (he : (follow ss seg at_).err = 0) (hz : (follow ss seg at_).w ≠ 0) (ho : (object ss seg at_).2 = 0) (hi : ObIn ss (object ss seg at_).1) (hc : ObCost (object ss seg at_).1) (hm : ¬ m < (object ss seg at_).1.cost) (hk1 : (object ss seg at_).1.kind = 2) :
    Calls Tryd.prog 70 #[.pointer (some ⟨R, 0, none⟩), .int .i64 seg, .int .i64 at_, .int .i64 d] w (NPost w R (rdC A n c dl wl ol) (objV ss (valueV ss k) (object ss seg at_).1 (m - (object ss seg at_).1.cost))) := by
  have HV := Lib.hid hV
  have HK := Lib.hid hk
  have H := Lib.hid h
  have hr := h.row
  have HR := Lib.hid h.row
  have hRw := h.lt
  have hdn : ¬ dl < d := by omega
  have m0 := h.m0
  have m1 := h.m1
  have d1 : d ≤ 1000000 := by have := h.d1; omega
  unfold rdr at hr
  generalize hF : follow ss seg at_ = F at *
  generalize hO : object ss seg at_ = O at *
  have HF := Lib.hid hF
  have HOb := Lib.hid hO
  obtain ⟨fw, fs, fb, fe⟩ := F
  obtain ⟨o, oe⟩ := O
  simp only at he hz ho hm hc hi hk1
  have c0 := hc.low
  have c1 := hc.high
  subst he ho
  have bz : (fw == 0) = false := by simpa using hz
  have bk : (o.kind == 1) = false := by rw [hk1]; rfl
  have HI := Lib.hid hi
  have HC := Lib.hid hc
  have HK1 := Lib.hid hk1
  obtain ⟨res, hres⟩ : ∃ r, r = objV ss (valueV ss k) o (m - o.cost) := ⟨_, rfl⟩
  have HRes := Lib.hid hres
  show Calls _ _ _ _ (NPost w R (rdC A n c dl wl ol) (objV ss (valueV ss k) o (m - o.cost)))
  rw [← hres]
  clear hV h hF hO hc hk hi hres hk1
  go_enter Tryd.func70, Tryd.ntmps70
  go_wp2_with (first | (go_at_call 77; refine ((H.out.same (by (repeat (first | exact Below.refl _ _ | assumption | refine Below.setCell ?_ (by (try simp); (try omega)) _ | refine Below.alloc ?_ (by (try simp); (try omega)) _ | refine below_setRow ?_ (by (try simp); (try omega)) _ | refine pw_below_drewN ?_ _ | refine Below.drew ?_)))).follow _ _).mono ?_; rw [HF.out]; rintro e w1 ⟨rfl, hb1⟩; have hB1 := below_step (w := w) (by (repeat (first | exact Below.refl _ _ | assumption | refine Below.setCell ?_ (by (try simp); (try omega)) _ | refine Below.alloc ?_ (by (try simp); (try omega)) _ | refine below_setRow ?_ (by (try simp); (try omega)) _ | refine pw_below_drewN ?_ _ | refine Below.drew ?_))) hb1; obtain ⟨hc1, hf1⟩ := bcell hb1; have hd1 := blk_below hb1; have hs1 := hB1.size; have hz1_0 : w.heap.size < w1.heap.size := (by have hq := hb1.size; (try simp at hq); omega); have hy1_0 : w.heap.size ≠ w1.heap.size := Nat.ne_of_lt hz1_0; have hk1_0 := hd1 (w.heap.size) (by (try simp); (try omega)); (try simp (disch := first | omega | (simp; omega)) only [blk_setRow_far, blk_alloc_past, blk_setCell_far, blk_drewN, blk_drew] at hk1_0); have hkR1 := hd1 R (by (try simp); (try omega)); (try simp (disch := first | assumption | omega | (simp; omega)) only [blk_setRow_far, blk_alloc_past, blk_setCell_far, blk_drewN, blk_drew] at hkR1); (try rw [hr] at hkR1); (try simp (disch := first | assumption | omega | (simp; done) | (simp; omega)) only [blk_setRow_far, blk_alloc_past, blk_alloc_new, blk_alloc_at, blk_setCell_far, blk_drewN, blk_drew] at hk1_0)) | (go_at_call 120; (with_reducible refine (check_ok _).mono ?_); rintro e w2 ⟨rfl, hw2⟩; subst hw2) | (go_at_call 78; refine (IsNull_any _ _).mono ?_; rintro e w2 ⟨rfl, hw2⟩; subst w2) | (go_at_call 121; refine (Enter_any _ _ _ _ _).mono ?_; rintro e w2 ⟨rfl, hb2⟩; have hB2 := below_step (w := w) (by (repeat (first | exact Below.refl _ _ | assumption | refine Below.setCell ?_ (by (try simp); (try omega)) _ | refine Below.alloc ?_ (by (try simp); (try omega)) _ | refine below_setRow ?_ (by (try simp); (try omega)) _ | refine pw_below_drewN ?_ _ | refine Below.drew ?_))) hb2; obtain ⟨hc2, hf2⟩ := bcell hb2; have hd2 := blk_below hb2; have hs2 := hB2.size; have hz2_0 : w.heap.size < w2.heap.size := (by have hq := hb2.size; (try simp at hq); omega); have hy2_0 : w.heap.size ≠ w2.heap.size := Nat.ne_of_lt hz2_0; have hk2_0 := hd2 (w.heap.size) (by (try simp); (try omega)); (try simp (disch := first | omega | (simp; omega)) only [blk_setRow_far, blk_alloc_past, blk_setCell_far, blk_drewN, blk_drew] at hk2_0); have hkR2 := hd2 R (by (try simp); (try omega)); (try simp (disch := first | assumption | omega | (simp; omega)) only [blk_setRow_far, blk_alloc_past, blk_setCell_far, blk_drewN, blk_drew] at hkR2); (try rw [hr] at hkR2); (try rw [hkR1] at hkR2); (try simp (disch := first | assumption | omega | (simp; done) | (simp; omega)) only [blk_setRow_far, blk_alloc_past, blk_alloc_new, blk_alloc_at, blk_setCell_far, blk_drewN, blk_drew] at hk2_0)) | (go_at_call 48; refine ((H.out.same hB2).obj _ _).mono ?_; rw [HOb.out]; rintro e w3 ⟨rfl, hb3⟩; have hB3 := below_step (w := w) (by (repeat (first | exact Below.refl _ _ | assumption | refine Below.setCell ?_ (by (try simp); (try omega)) _ | refine Below.alloc ?_ (by (try simp); (try omega)) _ | refine below_setRow ?_ (by (try simp); (try omega)) _ | refine pw_below_drewN ?_ _ | refine Below.drew ?_))) hb3; obtain ⟨hc3, hf3⟩ := bcell hb3; have hd3 := blk_below hb3; have hs3 := hB3.size; have hz3_0 : w.heap.size < w3.heap.size := (by have hq := hb3.size; (try simp at hq); omega); have hy3_0 : w.heap.size ≠ w3.heap.size := Nat.ne_of_lt hz3_0; have hk3_0 := hd3 (w.heap.size) (by (try simp); (try omega)); (try simp (disch := first | omega | (simp; omega)) only [blk_setRow_far, blk_alloc_past, blk_setCell_far, blk_drewN, blk_drew] at hk3_0); have hkR3 := hd3 R (by (try simp); (try omega)); (try simp (disch := first | assumption | omega | (simp; omega)) only [blk_setRow_far, blk_alloc_past, blk_setCell_far, blk_drewN, blk_drew] at hkR3); (try rw [hr] at hkR3); (try rw [hkR2] at hkR3); (try rw [hkR1] at hkR3); (try simp (disch := first | assumption | omega | (simp; done) | (simp; omega)) only [blk_setRow_far, blk_alloc_past, blk_alloc_new, blk_alloc_at, blk_setCell_far, blk_drewN, blk_drew] at hk3_0); have hR3 : R < w3.heap.size + 1 := (by have hq := hB3.size; omega); have hR3' : R ≠ w3.heap.size := (by have hq := hB3.size; omega)))
  obtain ⟨w4, hw4⟩ : ∃ w4, w4 = (w3.alloc (.cells #[.int .i64 0, .int .i64 0, .int .i64 0, .int .i64 0, .int .i64 0, .int .i64 0, .int .i64 0, .int .i64 0] 61)).setRow w3.heap.size #[.int .i64 o.kind, .int .i64 o.seg, .int .i64 o.at_, .int .i64 o.data, .int .i64 o.ptrs, .int .i64 o.elem, .int .i64 o.n, .int .i64 o.cost] := ⟨_, rfl⟩
  have hs3' := hB3.size
  have hs4 : w4.heap.size = w3.heap.size + 1 := by rw [hw4]; simp [World.setRow]
  have hb4 : Below w3.heap.size w3 w4 := by rw [hw4]; exact below_setRow ((Below.refl _ _).alloc (Nat.le_refl _) _) (Nat.le_refl _) _
  have hkR4 : blk w4 R = rdC A n c dl wl ol m := (blk_below hb4 R (by omega)).trans hkR3
  have hkO4 : blk w4 w3.heap.size = some (.cells #[.int .i64 o.kind, .int .i64 o.seg, .int .i64 o.at_, .int .i64 o.data, .int .i64 o.ptrs, .int .i64 o.elem, .int .i64 o.n, .int .i64 o.cost] 61 (0, 0)) := by
    rw [hw4, blk_setRow_at, blk_alloc_new]; rfl
  have hkZ4 := (blk_below hb4 w.heap.size (by omega)).trans hk3_0
  rw [← hw4]
  have hRr : R < w4.heap.size := by omega
  have HB4 := Lib.hid (hB3.trans (hb4.mono hs3'))
  clear hw4 hb4
  refine wp_region_inv' 14 mixed (by kernel_rfl) (SInv (w4) R (rdC A n c dl wl ol m) (rdC A n c dl wl ol (m - o.cost)) 14 13 (fun i => match i with | 0 => .pointer (some ⟨R, 0, none⟩) | 1 => .pointer (some ⟨R, 0, none⟩) | 2 => .pointer (some ⟨R, 0, none⟩) | 3 => .pointer (some ⟨R, 4, none⟩) | 4 => .agg #[.int .i64 m] | 5 => .pointer (some ⟨w3.heap.size, 7, none⟩) | 6 => .int .i64 o.cost | 7 => .tuple #[.agg #[.int .i64 (m - o.cost)], .int .i64 0] | 8 => .tuple #[.agg #[.int .i64 (m - o.cost)], .int .i64 0] | 9 => .agg #[.int .i64 (m - o.cost)] | 10 => .int .i64 0 | 11 => .pointer (some ⟨R, 0, none⟩) | 12 => .pointer (some ⟨R, 4, none⟩) | _ => undef)) ?_ ?_ ?_
  · intro L vs hL0
    exact ⟨(But.refl _ _ _).drew, (fun _ => by first | assumption | exact hkR'.out), (fun h7 => by rw [hL0 13 (by omega)] at h7; cases h7), (fun i hi _ h7 => by rw [hL0 i (by omega)] at h7; cases h7)⟩
  · intro i hi a W hdf hag L hcl hl hn hI
    have Hdf := Lib.hid hdf; clear hdf; have Hcl := Lib.hid hcl; clear hcl
    have hkW3 := (hI.but.block w3.heap.size (by omega) (by omega)).trans hkO4
    have hi' : i = 0 ∨ i = 1 ∨ i = 2 ∨ i = 3 ∨ i = 4 ∨ i = 5 ∨ i = 6 ∨ i = 7 ∨ i = 8 ∨ i = 9 ∨ i = 10 ∨ i = 11 ∨ i = 12 ∨ i = 13 := by omega
    rcases hi' with rfl | rfl | rfl | rfl | rfl | rfl | rfl | rfl | rfl | rfl | rfl | rfl | rfl | rfl
    · have e0 := hag 0 rfl; have E0 := e0; rw [Array.getD_eq_getD_getElem?] at E0; (try have hkR' := hI.before (not_yet Hcl.out hl (by decide) rfl); unfold rdC rdr at hkR'); refine InvOp.of _ rfl rfl _ rfl fun K hK => ?_
      go_simp
      exact hK _ _ (hI.quiet hRr (by omega) (by omega) (Below.refl _ _))
    · have e0 := hag 0 rfl; have E0 := e0; rw [Array.getD_eq_getD_getElem?] at E0; (try have hkR' := hI.before (not_yet Hcl.out hl (by decide) rfl); unfold rdC rdr at hkR'); refine InvOp.of _ rfl rfl _ rfl fun K hK => ?_
      go_simp
      exact hK _ _ (hI.quiet hRr (by omega) (by omega) (Below.refl _ _))
    · have e52 : a.tmps.getD 52 undef = .pointer (some ⟨R, 0, none⟩) := hI.vals 1 (by omega) (by omega) (hn 1 rfl); have E52 := e52; rw [Array.getD_eq_getD_getElem?] at E52; (try have hkR' := hI.before (not_yet Hcl.out hl (by decide) rfl); unfold rdC rdr at hkR'); refine InvOp.of _ rfl rfl _ rfl fun K hK => ?_
      go_simp
      exact hK _ _ (hI.quiet hRr (by omega) (by omega) (Below.refl _ _))
    · have e53 : a.tmps.getD 53 undef = .pointer (some ⟨R, 0, none⟩) := hI.vals 2 (by omega) (by omega) (hn 2 rfl); have E53 := e53; rw [Array.getD_eq_getD_getElem?] at E53; (try have hkR' := hI.before (not_yet Hcl.out hl (by decide) rfl); unfold rdC rdr at hkR'); refine InvOp.of _ rfl rfl _ rfl fun K hK => ?_
      go_simp
      exact hK _ _ (hI.quiet hRr (by omega) (by omega) (Below.refl _ _))
    · have e54 : a.tmps.getD 54 undef = .pointer (some ⟨R, 4, none⟩) := hI.vals 3 (by omega) (by omega) (hn 3 rfl); have E54 := e54; rw [Array.getD_eq_getD_getElem?] at E54; (try have hkR' := hI.before (not_yet Hcl.out hl (by decide) rfl); unfold rdC rdr at hkR'); refine InvOp.of _ rfl rfl _ rfl fun K hK => ?_
      go_simp
      exact hK _ _ (hI.quiet hRr (by omega) (by omega) (Below.refl _ _))
    · have e13 := hag 13 rfl; have E13 := e13; rw [Array.getD_eq_getD_getElem?] at E13; (try have hkR' := hI.before (not_yet Hcl.out hl (by decide) rfl); unfold rdC rdr at hkR'); refine InvOp.of _ rfl rfl _ rfl fun K hK => ?_
      go_simp
      exact hK _ _ (hI.quiet hRr (by omega) (by omega) (Below.refl _ _))
    · have e56 : a.tmps.getD 56 undef = .pointer (some ⟨w3.heap.size, 7, none⟩) := hI.vals 5 (by omega) (by omega) (hn 5 rfl); have E56 := e56; rw [Array.getD_eq_getD_getElem?] at E56; (try have hkR' := hI.before (not_yet Hcl.out hl (by decide) rfl); unfold rdC rdr at hkR'); refine InvOp.of _ rfl rfl _ rfl fun K hK => ?_
      go_simp
      exact hK _ _ (hI.quiet hRr (by omega) (by omega) (Below.refl _ _))
    · have e55 : a.tmps.getD 55 undef = .agg #[.int .i64 m] := hI.vals 4 (by omega) (by omega) (hn 4 rfl); have E55 := e55; rw [Array.getD_eq_getD_getElem?] at E55; have e57 : a.tmps.getD 57 undef = .int .i64 o.cost := hI.vals 6 (by omega) (by omega) (hn 6 rfl); have E57 := e57; rw [Array.getD_eq_getD_getElem?] at E57; (try have hkR' := hI.before (not_yet Hcl.out hl (by decide) rfl); unfold rdC rdr at hkR'); refine InvOp.of _ rfl rfl _ rfl fun K hK => ?_
      go_simp
      refine (charge_rich m o.cost W m0 (by omega) c0 (by omega) (by omega)).mono ?_; rintro e w' ⟨rfl, hb⟩; exact hK _ _ (hI.quiet hRr (by omega) (by omega) hb)
    · have e58 : a.tmps.getD 58 undef = .tuple #[.agg #[.int .i64 (m - o.cost)], .int .i64 0] := hI.vals 7 (by omega) (by omega) (hn 7 rfl); have E58 := e58; rw [Array.getD_eq_getD_getElem?] at E58; (try have hkR' := hI.before (not_yet Hcl.out hl (by decide) rfl); unfold rdC rdr at hkR'); refine InvOp.of _ rfl rfl _ rfl fun K hK => ?_
      go_simp
      exact hK _ _ (hI.quiet hRr (by omega) (by omega) (Below.refl _ _))
    · have e50 : a.tmps.getD 50 undef = .tuple #[.agg #[.int .i64 (m - o.cost)], .int .i64 0] := hI.vals 8 (by omega) (by omega) (hn 8 rfl); have E50 := e50; rw [Array.getD_eq_getD_getElem?] at E50; (try have hkR' := hI.before (not_yet Hcl.out hl (by decide) rfl); unfold rdC rdr at hkR'); refine InvOp.of _ rfl rfl _ rfl fun K hK => ?_
      go_simp
      exact hK _ _ (hI.quiet hRr (by omega) (by omega) (Below.refl _ _))
    · have e50 : a.tmps.getD 50 undef = .tuple #[.agg #[.int .i64 (m - o.cost)], .int .i64 0] := hI.vals 8 (by omega) (by omega) (hn 8 rfl); have E50 := e50; rw [Array.getD_eq_getD_getElem?] at E50; (try have hkR' := hI.before (not_yet Hcl.out hl (by decide) rfl); unfold rdC rdr at hkR'); refine InvOp.of _ rfl rfl _ rfl fun K hK => ?_
      go_simp
      exact hK _ _ (hI.quiet hRr (by omega) (by omega) (Below.refl _ _))
    · have e51 : a.tmps.getD 51 undef = .pointer (some ⟨R, 0, none⟩) := hI.vals 0 (by omega) (by omega) (hn 0 rfl); have E51 := e51; rw [Array.getD_eq_getD_getElem?] at E51; (try have hkR' := hI.before (not_yet Hcl.out hl (by decide) rfl); unfold rdC rdr at hkR'); refine InvOp.of _ rfl rfl _ rfl fun K hK => ?_
      go_simp
      exact hK _ _ (hI.quiet hRr (by omega) (by omega) (Below.refl _ _))
    · have e61 : a.tmps.getD 61 undef = .pointer (some ⟨R, 0, none⟩) := hI.vals 11 (by omega) (by omega) (hn 11 rfl); have E61 := e61; rw [Array.getD_eq_getD_getElem?] at E61; (try have hkR' := hI.before (not_yet Hcl.out hl (by decide) rfl); unfold rdC rdr at hkR'); refine InvOp.of _ rfl rfl _ rfl fun K hK => ?_
      go_simp
      exact hK _ _ (hI.quiet hRr (by omega) (by omega) (Below.refl _ _))
    · have e62 : a.tmps.getD 62 undef = .pointer (some ⟨R, 4, none⟩) := hI.vals 12 (by omega) (by omega) (hn 12 rfl); have E62 := e62; rw [Array.getD_eq_getD_getElem?] at E62; have e59 : a.tmps.getD 59 undef = .agg #[.int .i64 (m - o.cost)] := hI.vals 9 (by omega) (by omega) (hn 9 rfl); have E59 := e59; rw [Array.getD_eq_getD_getElem?] at E59; have hkR' := hI.before hl; (try unfold rdC rdr at hkR'); refine InvOp.ofNone _ rfl rfl rfl fun K hK => ?_
      go_simp
      exact hK _ (hI.store hl (But.setCell (p := ⟨R, _, none⟩) (But.refl _ _ _) (.inr rfl) _) (by rw [blk_setCell_at, hkR']; rfl))
  · intro vs W L hall hI
    have e0 := hI.vals 0 (by omega) (by omega) (hall 0 (by omega))
    have e1 := hI.vals 1 (by omega) (by omega) (hall 1 (by omega))
    have e2 := hI.vals 2 (by omega) (by omega) (hall 2 (by omega))
    have e3 := hI.vals 3 (by omega) (by omega) (hall 3 (by omega))
    have e4 := hI.vals 4 (by omega) (by omega) (hall 4 (by omega))
    have e5 := hI.vals 5 (by omega) (by omega) (hall 5 (by omega))
    have e6 := hI.vals 6 (by omega) (by omega) (hall 6 (by omega))
    have e7 := hI.vals 7 (by omega) (by omega) (hall 7 (by omega))
    have e8 := hI.vals 8 (by omega) (by omega) (hall 8 (by omega))
    have e9 := hI.vals 9 (by omega) (by omega) (hall 9 (by omega))
    have e10 := hI.vals 10 (by omega) (by omega) (hall 10 (by omega))
    have e11 := hI.vals 11 (by omega) (by omega) (hall 11 (by omega))
    have e12 := hI.vals 12 (by omega) (by omega) (hall 12 (by omega))
    try dsimp only at e0 e1 e2 e3 e4 e5 e6 e7 e8 e9 e10 e11 e12
    simp only [putAll, slotOf, Option.bind_some, Act.put, List.getElem?_toArray, List.getElem?_cons_zero, List.getElem?_cons_succ, List.setIfInBounds_toArray, List.set_cons_zero, List.set_cons_succ, e0, e1, e2, e3, e4, e5, e6, e7, e8, e9, e10, e11, e12, List.drop_succ_cons, List.drop_zero]
    have hkR' := hI.after (hall 13 (by omega)); have HBw := Lib.hid hI.but; have hsW := hI.but.size; have hkW3 := (hI.but.block w3.heap.size (by omega) (by omega)).trans hkO4; clear e0 e1 e2 e3 e4 e5 e6 e7 e8 e9 e10 e11 e12 hI hall
    have H5 : Hid (RdIn B R W A n c ss dl wl ol (m - o.cost)) := H.out.next ((But.of HB4.out).trans (HBw.out.mono (by have := HB4.out.size; omega))) hkR' (by omega) (by omega)
    have hkZ5 := (HBw.out.block w.heap.size (by omega) (by omega)).trans hkZ4
    have hkO5 := (HBw.out.block w3.heap.size (by omega) (by omega)).trans hkO4
    have hlt5 : w.heap.size < W.heap.size := by omega
    have hlt6 : w3.heap.size < W.heap.size := by omega
    have HBZ := Lib.hid ((But.of (R := R) HB4.out).trans (HBw.out.mono (by have := HB4.out.size; omega)))
    clear hkR' hkR4
    cases res with
    | error e =>
      go_wp2_with (first | (go_at_call 120; (with_reducible refine (check_ok _).mono ?_); rintro e w5 ⟨rfl, hw2⟩; subst hw2) | (go_at_call 124; refine (rlist_any HV.out H5.out o HI.out HC.out HK1.out (by omega) d d0 d1 HK.out).mono ?_; rw [show listV ss (valueV ss k) o (m - o.cost) = _ from (show objV ss (valueV ss k) o (m - o.cost) = listV ss (valueV ss k) o (m - o.cost) from by unfold objV; rw [if_neg (by have := HK1.out; omega)]).symm.trans HRes.out.symm]; rintro e w5 ⟨rfl, hb5⟩))
      exact ⟨rfl, rfl, HBZ.out.trans (hb5.mono (by omega))⟩
    | ok r =>
      obtain ⟨x, m'⟩ := r
      go_wp2_with (first | (go_at_call 120; (with_reducible refine (check_ok _).mono ?_); rintro e w5 ⟨rfl, hw2⟩; subst hw2) | (go_at_call 124; refine (rlist_any HV.out H5.out o HI.out HC.out HK1.out (by omega) d d0 d1 HK.out).mono ?_; rw [show listV ss (valueV ss k) o (m - o.cost) = _ from (show objV ss (valueV ss k) o (m - o.cost) = listV ss (valueV ss k) o (m - o.cost) from by unfold objV; rw [if_neg (by have := HK1.out; omega)]).symm.trans HRes.out.symm]; rintro e w5 ⟨cs, rfl, hx, hb5, hr5⟩; have HX := Lib.hid hx; have HR5 := Lib.hid hr5; obtain ⟨kk, ee, nn, dd, ll⟩ := x; obtain ⟨A1, dc, A2, kc, rfl, hq⟩ := hx; clear hq hr5; have hkZ6 := (hb5.block w.heap.size hlt5 (by omega)).trans hkZ5; have hs5 := hb5.size; have HB5 := Lib.hid hb5))
      refine bodyPost_ret (v := .agg #[.int .i64 kk, .int .i64 ee, .int .i64 nn, .slice A1 dd.length dc, .slice A2 ll.length kc]) ((results_blk _ st_Node rfl _ (w.heap.size ) rfl (by simp [go_sem, hkZ6, hk3_0, hk2_0, hk1_0]) (by simp [go_sem, hkZ6, hk3_0, hk2_0, hk1_0])).trans (by simp [go_sem, hkZ6, hk3_0, hk2_0, hk1_0]; try omega)) rfl ?_
      refine ⟨_, rfl, HX.out.mono (fun b hb => ⟨by have := hb.1; omega, by simp [World.setRow]; exact hb.2⟩) (fun b hb => blk_setRow_far _ _ _ _ (by have := hb.1; omega)), ?_, ?_⟩
      · exact (HBZ.out.trans (HB5.out.mono (by omega))).setRow (by omega) _
      · rw [blk_setRow_far _ _ _ _ (by omega)]; exact HR5.out
end
theorem value_any : ∀ k, ValueSaid k := by
  intro k
  induction k with
  | zero =>
    intro B R w A n c ss dl wl ol m h seg at_ d d0 d1 hk
    unfold valueV
    by_cases he : (follow ss seg at_).err = 0
    · rw [if_neg (by simpa using he)]
      by_cases hz : (follow ss seg at_).w = 0
      · rw [if_pos hz]; exact value_null h seg at_ d he hz
      · rw [if_neg hz]; exact value_deep h seg at_ d he hz (by omega)
    · rw [if_pos he]; exact value_far h seg at_ d he
  | succ k ih =>
    intro B R w A n c ss dl wl ol m h seg at_ d d0 d1 hk
    unfold valueV
    by_cases he : (follow ss seg at_).err = 0
    · rw [if_neg (by simpa using he)]
      by_cases hz : (follow ss seg at_).w = 0
      · rw [if_pos hz]; exact value_null h seg at_ d he hz
      · rw [if_neg hz]
        dsimp only
        by_cases ho : (object ss seg at_).2 = 0
        · rw [if_neg (by simpa using ho)]
          obtain ⟨hi, hc⟩ := object_in h.wf ho hz
          by_cases hm : m < (object ss seg at_).1.cost
          · rw [if_pos hm]; exact value_poor h seg at_ d he hz (by omega) ho hc hm
          · rw [if_neg hm]
            rcases hi.kind with hk1 | hk1
            · exact value_struct ih h seg at_ d d0 (by omega) (by omega) he hz ho hi hc hm hk1
            · exact value_list ih h seg at_ d d0 (by omega) (by omega) he hz ho hi hc hm hk1
        · rw [if_pos ho]; exact value_noobj h seg at_ d he hz (by omega) ho
    · rw [if_pos he]; exact value_far h seg at_ d he
end Go.Proofs.YtelghkgnkncnoaaDoor
/- Contracts of denote.run's deferred closure. -/
set_option linter.unusedVariables false
set_option linter.unusedSimpArgs false
namespace Go.Proofs.YtelghkgnkncnoaaDoor
open Go.RowKit
theorem neqNil (W : World) (T : TypeId) (v : Value) : (binOp .neq 20 (.iface T v) .nilIface).run Tryd.prog W = .ok (.bool true) W := by
  cases v <;> kernel_rfl
theorem assertYes (W : World) (v : Value) : (Instr.typeAssert (.iface 108 v) 20 108 true).run Tryd.prog W = .ok (.tuple #[v, .bool true]) W := by kernel_rfl
def CatchPost (w : World) (gn gm gw : Nat) (c : Int) (e : Ending) (u' : FrameMode) (w' : World) : Prop :=
  e = .returned (.tuple #[]) ∧ u' = .panicking [{ v := .iface 108 (.agg #[.int .i64 c]), recovered := true }] ∧
      blk w' gn = some (.cells #[.int .i64 0, .int .i64 0, .int .i64 0, .slice none 0 0, .slice none 0 0] 42 (0, 0)) ∧ blk w' gm = some (.cells #[.int .i64 0] 81 (0, 0)) ∧ blk w' gw = some (.cells #[.int .i64 c] 27 (0, 0)) ∧
      ∀ B, B ≤ gn → B ≤ gm → B ≤ gw → B ≤ w.heap.size → Below B w w'
set_option maxRecDepth 100000 in
theorem catch_fail (w : World) (gn gm gw : Nat) (c x y : Int) (c0 c1 c2 c3 c4 : Value) (hn : blk w gn = some (.cells #[c0, c1, c2, c3, c4] 42 (0, 0))) (hm : blk w gm = some (.cells #[.int .i64 y] 81 (0, 0))) (hw : blk w gw = some (.cells #[.int .i64 x] 27 (0, 0)))
    (h1 : gn < w.heap.size) (h2 : gm < w.heap.size) (h3 : gw < w.heap.size) (h12 : gn ≠ gm) (h13 : gn ≠ gw) (h23 : gm ≠ gw) :
    CallsD Tryd.prog 68 #[.pointer (some ⟨gn, 0, none⟩), .pointer (some ⟨gm, 0, none⟩), .pointer (some ⟨gw, 0, none⟩)] (.panicking (failChain c)) w (CatchPost w gn gm gw c) := by
  have hne := neqNil
  have hta := assertYes
  refine callsD_of_wpS Tryd.func68 rfl fun c₀ cs hu => ?_
  apply wpS_seq
  apply wpS_region
  simp [wpOpsS, go_sem, recoverD, hu, failChain, Tryd.ntmps68, Exit.thenS]
  refine wpS_of_wp ?_
  simp only [show Array.replicate 18 undef = #[undef, undef, undef, undef, undef, undef, undef, undef, undef, undef, undef, undef, undef, undef, undef, undef, undef, undef] from rfl, List.setIfInBounds_toArray, List.set_cons_zero, List.set_cons_succ, List.append_toArray, List.cons_append, List.nil_append]
  have Hu := Lib.hid hu
  clear hu
  obtain ⟨Q, hQ⟩ : ∃ Q : Exit → Act → World → Prop, Q = fun e a' w' => bodyPostS Tryd.prog Tryd.f68 c₀ cs (CatchPost w gn gm gw c) e a' ({ c₀ with mode := .panicking [{ v := .iface 108 (.agg #[.int .i64 c]), recovered := true }] } :: cs) w' := ⟨_, rfl⟩
  rw [← hQ]
  have HQ := Lib.hid hQ
  clear hQ
  go_wp2_with fail
  have h21 := h12.symm
  have h31 := h13.symm
  have h32 := h23.symm
  have hgn : gn ≠ w.heap.size := by omega
  have hgm : gm ≠ w.heap.size := by omega
  have hgw : gw ≠ w.heap.size := by omega
  go_region_held3 (fun W => blk W w.heap.size = some (.cells #[.int .i64 c] 108 (0, 0))) (((try dsimp only); (repeat' apply And.intro) <;> first | assumption | (simp (disch := (first | assumption | omega | (simp; done) | (simp; omega))) only [blk_drew, blk_drewN, blk_setRow_far, blk_setCell_far, blk_alloc_past, blk_alloc_new, blk_alloc_at]; first | done | assumption))) (fail)
  go_wp2_with fail
  rw [HQ.out]
  refine ⟨rfl, _, rfl, _, (by simp [results, Tryd.results68]), rfl, rfl, ?_, ?_, ?_, fun B b1 b2 b3 b4 => ?_⟩
  · rw [blk_setCell_far _ _ _ _ _ h13, blk_setCell_far _ _ _ _ _ h12, blk_setRow_at, blk_drew, blk_alloc_past _ _ _ h1, hn]; rfl
  · rw [blk_setCell_far _ _ _ _ _ h23, blk_setCell_at, blk_setRow_far _ _ _ _ h21, blk_drew, blk_alloc_past _ _ _ h2, hm]; rfl
  · rw [blk_setCell_at, blk_setCell_far _ _ _ _ _ h32, blk_setRow_far _ _ _ _ h31, blk_drew, blk_alloc_past _ _ _ h3, hw]; rfl
  · (repeat (first | exact Below.refl _ _ | assumption | refine Below.setCell ?_ (by (try simp); (try omega)) _ | refine Below.alloc ?_ (by (try simp); (try omega)) _ | refine below_setRow ?_ (by (try simp); (try omega)) _ | refine pw_below_drewN ?_ _ | refine Below.drew ?_))
theorem catch_idle (w : World) (p q r : Value) :
    CallsD Tryd.prog 68 #[p, q, r] .returning w fun e u' w' => e = .returned (.tuple #[]) ∧ u' = .returning ∧ w' = w := by
  refine callsD_of_wpS Tryd.func68 rfl fun c₀ cs hu => ?_
  apply wpS_seq
  apply wpS_region
  simp [wpOpsS, go_sem, recoverD, hu, Tryd.ntmps68, Exit.thenS]
  apply wpS_seq
  apply wpS_region
  simp [wpOpsS, go_sem, recoverD, hu, Exit.thenS]
  refine wpS_cond (t := false) (by simp [Act.eval, Array.replicate]) ?_
  simp only [Bool.false_eq_true, if_false]
  refine wpS_of_wp (wp_skip ?_)
  cases c₀
  simp_all [bodyPostS, results, Tryd.results68]
end Go.Proofs.YtelghkgnkncnoaaDoor
/- Contract of denote.run. -/
set_option linter.unusedVariables false
set_option linter.unusedSimpArgs false
namespace Go.Proofs.YtelghkgnkncnoaaDoor
open Go.RowKit
@[reducible] def zeroNd : Value := .agg #[.int .i64 0, .int .i64 0, .int .i64 0, .slice none 0 0, .slice none 0 0]
def RunPost (w : World) (res : Tv) (e : Ending) (w' : World) : Prop := match res with
  | .error c => e = .returned (.tuple #[zeroNd, .agg #[.int .i64 0], .int .i64 c]) ∧ Below w.heap.size w w'
  | .ok (x, m') => ∃ cs : List Value, e = .returned (.tuple #[.agg cs.toArray, .agg #[.int .i64 m'], .int .i64 0]) ∧ NdV (From w.heap.size w') w' x cs ∧ Below w.heap.size w w'
theorem startM_eq (n : Int) : startM n = max n 0 := by unfold startM; split <;> omega
theorem results_run {W : World} {tmps : Array Value} {g1 g2 g3 : Nat} {cs1 : Array Value} {m c : Int} (h4 : tmps.getD 4 undef = .pointer (some ⟨g1, 0, none⟩)) (h5 : tmps.getD 5 undef = .pointer (some ⟨g2, 0, none⟩)) (h6 : tmps.getD 6 undef = .pointer (some ⟨g3, 0, none⟩))
    (hs : cs1.size = 5) (b1 : blk W g1 = some (.cells cs1 42 (0, 0))) (b2 : blk W g2 = some (.cells #[.int .i64 m] 81 (0, 0))) (b3 : blk W g3 = some (.cells #[.int .i64 c] 27 (0, 0))) :
    (results Tryd.f42 tmps).run Tryd.prog W = .ok (.tuple #[.agg cs1, .agg #[.int .i64 m], .int .i64 c]) W := by
  have l1 := load_struct st_Node g1 W (by rw [b1]; rfl) (by rw [b1]; exact hs)
  have l2 := load_struct st_Meter g2 W (by rw [b2]; rfl) (by rw [b2]; rfl)
  have l3 : (Instr.loadAt 27 (.pointer (some ⟨g3, 0, none⟩))).run Tryd.prog W = .ok (.int .i64 c) W := by
    have hc : W.cell? ⟨g3, 0, none⟩ = some (.int .i64 c) := by rw [cell_of_blk _ _ _ (by rw [b3]; rfl), b3]; rfl
    simp [go_sem, hc]
  rw [b1] at l1
  rw [b2] at l2
  simp only [Instr.loadAt, Instr.sureAddr, Sem.run_bind, Sem.run_pure, Result.andThen_ok] at l1 l2 l3
  rw [Array.getD_eq_getD_getElem?] at h4 h5 h6
  simp [results, Tryd.results42, h4, h5, h6, asAddr, l1, l2, l3, rowOf]
set_option maxRecDepth 100000 in
set_option maxHeartbeats 1000000 in
theorem run_empty {B : Nat} {w : World} {A : Option Addr} {n c : Nat} {ss : List (List Int)} (hS : RS B w A n ss) (hB : B ≤ w.heap.size) (d wl o : Int) (h0 : 0 < ss.length) (h1 : (ss.getD 0 []).length = 0) :
    Calls Tryd.prog 42 #[.slice A n c, vLim d wl o] w (RunPost w (.ok (.null, max wl 0))) := by
  have hlen := hS.1
  obtain ⟨b, o', A', c', rfl, hb, hcell, _, _⟩ := hS.seg 0 (by omega) (by omega)
  rw [show (0 : Int).toNat = 0 from rfl, h1] at hcell
  simp only [Nat.add_zero] at hcell
  have hbw : b < w.heap.size := by omega
  have hn0 : 0 < n := by omega
  have hmf : ∀ (fn : Fn) (first cap : Array Value) (w : World), (Instr.makeFunc fn first cap).run Tryd.prog w = .ok (.func fn first cap) w := fun _ _ _ _ => rfl
  have Hc := Lib.hid hcell
  clear hS h0 h1 hlen hcell
  go_enter_defers Tryd.func42, Tryd.ntmps42
  go_wp2_with fail
  go_region_held3 (fun W => blk W w.heap.size = some (.cells #[.int .i64 d, .int .i64 wl, .int .i64 o] 24 (0, 0))) (((try dsimp only); (repeat' apply And.intro) <;> first | assumption | (simp (disch := (first | assumption | omega | (simp; done) | (simp; omega))) only [blk_drew, blk_drewN, blk_setRow_far, blk_setCell_far, blk_alloc_past, blk_alloc_new, blk_alloc_at]; first | done | assumption)))
    (first | (go_at_call 69; refine (Start_any _ _ _ _).mono ?_; rintro e w1 ⟨rfl, hb1⟩; have hB1 := below_step (w := w) (by (repeat (first | exact Below.refl _ _ | assumption | refine Below.setCell ?_ (by (try simp); (try omega)) _ | refine Below.alloc ?_ (by (try simp); (try omega)) _ | refine below_setRow ?_ (by (try simp); (try omega)) _ | refine pw_below_drewN ?_ _ | refine Below.drew ?_))) hb1; obtain ⟨hc1, hf1⟩ := bcell hb1; have hd1 := blk_below hb1; have hs1 := hB1.size; have hz1_0 : w.heap.size < w1.heap.size := (by have hq := hb1.size; (try simp at hq); omega); have hy1_0 : w.heap.size ≠ w1.heap.size := Nat.ne_of_lt hz1_0; have hk1_0 := hd1 (w.heap.size) (by (try simp); (try omega)); (try simp (disch := first | omega | (simp; omega)) only [blk_setRow_far, blk_alloc_past, blk_setCell_far, blk_drewN, blk_drew] at hk1_0); have hz1_1 : w.heap.size + 1 < w1.heap.size := (by have hq := hb1.size; (try simp at hq); omega); have hy1_1 : w.heap.size + 1 ≠ w1.heap.size := Nat.ne_of_lt hz1_1; have hk1_1 := hd1 (w.heap.size + 1) (by (try simp); (try omega)); (try simp (disch := first | omega | (simp; omega)) only [blk_setRow_far, blk_alloc_past, blk_setCell_far, blk_drewN, blk_drew] at hk1_1); have hz1_2 : w.heap.size + 1 + 1 < w1.heap.size := (by have hq := hb1.size; (try simp at hq); omega); have hy1_2 : w.heap.size + 1 + 1 ≠ w1.heap.size := Nat.ne_of_lt hz1_2; have hk1_2 := hd1 (w.heap.size + 1 + 1) (by (try simp); (try omega)); (try simp (disch := first | omega | (simp; omega)) only [blk_setRow_far, blk_alloc_past, blk_setCell_far, blk_drewN, blk_drew] at hk1_2); have hz1_3 : w.heap.size + 1 + 1 + 1 < w1.heap.size := (by have hq := hb1.size; (try simp at hq); omega); have hy1_3 : w.heap.size + 1 + 1 + 1 ≠ w1.heap.size := Nat.ne_of_lt hz1_3; have hk1_3 := hd1 (w.heap.size + 1 + 1 + 1) (by (try simp); (try omega)); (try simp (disch := first | omega | (simp; omega)) only [blk_setRow_far, blk_alloc_past, blk_setCell_far, blk_drewN, blk_drew] at hk1_3); (try simp (disch := first | assumption | omega | (simp; done) | (simp; omega)) only [blk_setRow_far, blk_alloc_past, blk_alloc_new, blk_alloc_at, blk_setCell_far, blk_drewN, blk_drew] at hk1_0); (try simp (disch := first | assumption | omega | (simp; done) | (simp; omega)) only [blk_setRow_far, blk_alloc_past, blk_alloc_new, blk_alloc_at, blk_setCell_far, blk_drewN, blk_drew] at hk1_1); (try simp (disch := first | assumption | omega | (simp; done) | (simp; omega)) only [blk_setRow_far, blk_alloc_past, blk_alloc_new, blk_alloc_at, blk_setCell_far, blk_drewN, blk_drew] at hk1_2); (try simp (disch := first | assumption | omega | (simp; done) | (simp; omega)) only [blk_setRow_far, blk_alloc_past, blk_alloc_new, blk_alloc_at, blk_setCell_far, blk_drewN, blk_drew] at hk1_3)))
  have hcell1 : w1.cell? ⟨b, o', none⟩ = some (.slice A' 0 c') := ((bcell hB1).1 _ _ hbw).trans Hc.out
  have hb1w : b < w1.heap.size := by omega
  go_wp2
  go_region_held3 (fun W => blk W w1.heap.size = some (.cells #[.slice (some ⟨b, o', none⟩) n c, .int .i64 d, .int .i64 wl, .int .i64 o, .int .i64 (max wl 0)] 112 (0, 0))) (((try dsimp only); (repeat' apply And.intro) <;> first | assumption | (simp (disch := (first | assumption | omega | (simp; done) | (simp; omega))) only [blk_drew, blk_drewN, blk_setRow_far, blk_setCell_far, blk_alloc_past, blk_alloc_new, blk_alloc_at]; first | done | assumption))) (fail)
  go_wp2
  refine leaves_cons (f := 68) (args := #[.pointer (some ⟨w.heap.size + 1, 0, none⟩), .pointer (some ⟨w.heap.size + 1 + 1, 0, none⟩), .pointer (some ⟨w.heap.size + 1 + 1 + 1, 0, none⟩)]) (by simp) (by simp [go_sem]) ?_
  refine (catch_idle _ _ _ _).mono ?_
  rintro e u' w'' ⟨rfl, rfl, rfl⟩
  refine ⟨_, results_run (g1 := w.heap.size + 1) (g2 := w.heap.size + 1 + 1) (g3 := w.heap.size + 1 + 1 + 1) (cs1 := #[.int .i64 0, .int .i64 0, .int .i64 0, .slice none 0 0, .slice none 0 0]) (m := max wl 0) (c := 0) rfl rfl rfl rfl ?_ ?_ ?_, ⟨_, rfl, NdV.null _ _, ?_⟩⟩
  · rw [blk_setCell_far _ _ _ _ _ (by omega), blk_setCell_far _ _ _ _ _ (by omega), blk_setRow_at, blk_drew, blk_alloc_past _ _ _ hz1_1, hk1_1]; rfl
  · rw [blk_setCell_far _ _ _ _ _ (by omega), blk_setCell_at, blk_setRow_far _ _ _ _ (by omega), blk_drew, blk_alloc_past _ _ _ hz1_2, hk1_2]; rfl
  · rw [blk_setCell_at, blk_setCell_far _ _ _ _ _ (by omega), blk_setRow_far _ _ _ _ (by omega), blk_drew, blk_alloc_past _ _ _ hz1_3, hk1_3]; rfl
  · (repeat (first | exact Below.refl _ _ | assumption | refine Below.setCell ?_ (by (try simp); (try omega)) _ | refine Below.alloc ?_ (by (try simp); (try omega)) _ | refine below_setRow ?_ (by (try simp); (try omega)) _ | refine pw_below_drewN ?_ _ | refine Below.drew ?_))
end Go.Proofs.YtelghkgnkncnoaaDoor
