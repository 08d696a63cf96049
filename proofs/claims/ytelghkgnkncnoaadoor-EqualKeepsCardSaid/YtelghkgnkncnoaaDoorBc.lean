/- A part of the proof: the texts W8 W9 joined. -/
import Derived.Test.YtelghkgnkncnoaaDoorBb
/- Contracts of package resolve: list, Object, Element, Pointers. -/
set_option linter.unusedVariables false
set_option linter.unusedSimpArgs false
namespace Go.Proofs.YtelghkgnkncnoaaDoor
open Go.RowKit
theorem Words_post {B : Nat} {w : World} (hE : Env B w) (elem count : Int) (e0 : 0 ≤ elem) (e1 : elem < 8) (c0 : 0 ≤ count) (c1 : count ≤ 1152921504606846976 / 64) : Calls Tryd.prog 115 #[.int .i64 elem, .int .i64 count] w (VPost w (.int .i64 (lwords elem count))) :=
  (Words_any hE elem count e0 e1 c0 c1).mono fun e w' ⟨he, hw⟩ => ⟨he, hw ▸ Below.refl _ _⟩
set_option maxRecDepth 100000 in
set_option maxHeartbeats 4000000 in
theorem list_any {B : Nat} {w : World} {A : Option Addr} {n c : Nat} {ss : List (List Int)} (hE : Env B w) (hB : B ≤ w.heap.size) (hS : RS B w A n ss) (hw : WFS ss) (p : Ptr) (hp : PtrIn p) (seg start : Int) :
    Calls Tryd.prog 81 #[.slice A n c, vPtr p, .int .i64 seg, .int .i64 start] w (VPost w (vObE (if p.elem = 7 then composite ss p seg start else within ss ⟨2, seg, start, 0, 0, p.elem, p.count, lwords p.elem p.count⟩ start (lwords p.elem p.count)))) := by
  have HE := Lib.hid hE
  have HS := Lib.hid hS
  have Hw := Lib.hid hw
  have Hp := Lib.hid hp
  obtain ⟨c0, c1⟩ := hp.count
  obtain ⟨e0, e1⟩ := hp.elem
  clear hE hS hw hp
  by_cases h7 : p.elem = 7
  · rw [if_pos h7]
    obtain ⟨k0, of, da, pt, el, co, db, pd, sg, lo⟩ := p
    simp only at h7 c0 c1 e0 e1
    subst h7
    go_enter Tryd.func81, Tryd.ntmps81
    go_wp2_with (go_at_call 135; refine (composite_any (B := B) (HE.out.mono (Below.mono (B := w.heap.size) (by (repeat (first | exact Below.refl _ _ | assumption | refine Below.setCell ?_ (by (try simp); (try omega)) _ | refine Below.alloc ?_ (by (try simp); (try omega)) _ | refine below_setRow ?_ (by (try simp); (try omega)) _ | refine pw_below_drewN ?_ _ | refine Below.drew ?_))) hB) (Nat.le_refl _)) (Nat.le_trans hB (Below.size (w := w) (B := w.heap.size) (by (repeat (first | exact Below.refl _ _ | assumption | refine Below.setCell ?_ (by (try simp); (try omega)) _ | refine Below.alloc ?_ (by (try simp); (try omega)) _ | refine below_setRow ?_ (by (try simp); (try omega)) _ | refine pw_below_drewN ?_ _ | refine Below.drew ?_))))) (HS.out.mono (Below.mono (B := w.heap.size) (by (repeat (first | exact Below.refl _ _ | assumption | refine Below.setCell ?_ (by (try simp); (try omega)) _ | refine Below.alloc ?_ (by (try simp); (try omega)) _ | refine below_setRow ?_ (by (try simp); (try omega)) _ | refine pw_below_drewN ?_ _ | refine Below.drew ?_))) hB) (Nat.le_refl _)) Hw.out ⟨k0, of, da, pt, 7, co, db, pd, sg, lo⟩ Hp.out _ _).mono ?_; rintro e w1 ⟨rfl, hb1⟩; have hB1 := below_step (w := w) (by (repeat (first | exact Below.refl _ _ | assumption | refine Below.setCell ?_ (by (try simp); (try omega)) _ | refine Below.alloc ?_ (by (try simp); (try omega)) _ | refine below_setRow ?_ (by (try simp); (try omega)) _ | refine pw_below_drewN ?_ _ | refine Below.drew ?_))) hb1; obtain ⟨hc1, hf1⟩ := bcell hb1; have hd1 := blk_below hb1; have hs1 := hB1.size; have hz1_0 : w.heap.size < w1.heap.size := (by have hq := hb1.size; (try simp at hq); omega); have hy1_0 : w.heap.size ≠ w1.heap.size := Nat.ne_of_lt hz1_0; have hk1_0 := hd1 (w.heap.size) (by (try simp); (try omega)); (try simp (disch := first | omega | (simp; omega)) only [blk_setRow_far, blk_alloc_past, blk_setCell_far, blk_drewN, blk_drew] at hk1_0); have hz1_1 : w.heap.size + 1 < w1.heap.size := (by have hq := hb1.size; (try simp at hq); omega); have hy1_1 : w.heap.size + 1 ≠ w1.heap.size := Nat.ne_of_lt hz1_1; have hk1_1 := hd1 (w.heap.size + 1) (by (try simp); (try omega)); (try simp (disch := first | omega | (simp; omega)) only [blk_setRow_far, blk_alloc_past, blk_setCell_far, blk_drewN, blk_drew] at hk1_1))
    refine bodyPost_ret (v := vObE (composite ss ⟨k0, of, da, pt, 7, co, db, pd, sg, lo⟩ seg start)) ((results_blk2 _ st_Object rfl _ ((w.heap.size + 1) ) rfl (by simp [go_sem, hd1, hz1_0, hz1_1, hy1_0, hy1_1]) (by simp [go_sem, hd1, hz1_0, hz1_1, hy1_0, hy1_1])).trans (by simp [go_sem, hd1, hz1_0, hz1_1, hy1_0, hy1_1]; try omega)) rfl ⟨rfl, ?_⟩
    (repeat (first | exact Below.refl _ _ | assumption | refine Below.setCell ?_ (by (try simp); (try omega)) _ | refine Below.alloc ?_ (by (try simp); (try omega)) _ | refine below_setRow ?_ (by (try simp); (try omega)) _ | refine pw_below_drewN ?_ _ | refine Below.drew ?_))
  · rw [if_neg h7]
    go_enter Tryd.func81, Tryd.ntmps81
    go_wp2
    refine wp_region_free' 13 mixed (by kernel_rfl) (fun a b => Below a.heap.size a b) ((Below.refl _ _).drew) (fun a b c h k => h.trans (k.mono h.size)) (fun i v W => match i with | 0 => v = .int .i64 seg | 1 => v = .int .i64 start | 2 => v = .pointer (some ⟨w.heap.size, 4, none⟩) | 3 => v = .int .i64 p.elem | 4 => v = .pointer (some ⟨w.heap.size, 5, none⟩) | 5 => v = .int .i64 p.count | 6 => v = .pointer (some ⟨w.heap.size, 4, none⟩) | 7 => v = .int .i64 p.elem | 8 => v = .pointer (some ⟨w.heap.size, 5, none⟩) | 9 => v = .int .i64 p.count | 10 => v = .int .i64 (lwords p.elem p.count) | 11 => v = vOb ⟨2, seg, start, 0, 0, p.elem, p.count, lwords p.elem p.count⟩ | 12 => ∃ g, v = .pointer (some ⟨g, 0, none⟩) ∧ w.heap.size + 2 ≤ g ∧ g < W.heap.size ∧ ∃ cs, cs.size = 8 ∧ blk W g = some (.cells cs 61 (0, 0)) | _ => True) (fun j i v v' => True) ?_ ?_ ?_
    · intro i hi v W W' h hle
      have hi' : i = 0 ∨ i = 1 ∨ i = 2 ∨ i = 3 ∨ i = 4 ∨ i = 5 ∨ i = 6 ∨ i = 7 ∨ i = 8 ∨ i = 9 ∨ i = 10 ∨ i = 11 ∨ i = 12 := by omega
      rcases hi' with rfl | rfl | rfl | rfl | rfl | rfl | rfl | rfl | rfl | rfl | rfl | rfl | rfl
      all_goals first | exact h | exact SlP.mono h hle | exact SbP.mono h hle | (obtain ⟨g, h1, h2, h3, cs, h4, h5⟩ := h; exact ⟨g, h1, h2, Nat.lt_of_lt_of_le h3 hle.size, cs, h4, (blk_below hle g h3).trans h5⟩)
    · intro i hi a W hle hdf hag L hR hn
      have Hdf := Lib.hid hdf; clear hdf
      obtain ⟨hcW, hfW⟩ := bcell hle; have hdW := blk_below hle; have hsW := hle.size; have hBW := below_step (w := w) (by (repeat (first | exact Below.refl _ _ | assumption | refine Below.setCell ?_ (by (try simp); (try omega)) _ | refine Below.alloc ?_ (by (try simp); (try omega)) _ | refine below_setRow ?_ (by (try simp); (try omega)) _ | refine pw_below_drewN ?_ _ | refine Below.drew ?_))) hle
      have hi' : i = 0 ∨ i = 1 ∨ i = 2 ∨ i = 3 ∨ i = 4 ∨ i = 5 ∨ i = 6 ∨ i = 7 ∨ i = 8 ∨ i = 9 ∨ i = 10 ∨ i = 11 ∨ i = 12 := by omega
      rcases hi' with rfl | rfl | rfl | rfl | rfl | rfl | rfl | rfl | rfl | rfl | rfl | rfl | rfl
      · have e2 := hag 2 rfl; have E2 := e2; rw [Array.getD_eq_getD_getElem?] at E2; refine FreeOp.of _ rfl rfl _ rfl fun K hK => ?_
        go_simp
        exact hK _ _ rfl (Below.refl _ _) (fun j hj hL hji => ⟨trivial, trivial⟩)
      · have e3 := hag 3 rfl; have E3 := e3; rw [Array.getD_eq_getD_getElem?] at E3; refine FreeOp.of _ rfl rfl _ rfl fun K hK => ?_
        go_simp
        exact hK _ _ rfl (Below.refl _ _) (fun j hj hL hji => ⟨trivial, trivial⟩)
      · have e5 := hag 5 rfl; have E5 := e5; rw [Array.getD_eq_getD_getElem?] at E5; refine FreeOp.of _ rfl rfl _ rfl fun K hK => ?_
        go_simp
        exact hK _ _ rfl (Below.refl _ _) (fun j hj hL hji => ⟨trivial, trivial⟩)
      · have e23 : a.tmps.getD 23 undef = _ := hR 2 (by omega) (hn 2 rfl); have E23 := e23; rw [Array.getD_eq_getD_getElem?] at E23; refine FreeOp.of _ rfl rfl _ rfl fun K hK => ?_
        go_simp
        exact hK _ _ rfl (Below.refl _ _) (fun j hj hL hji => ⟨trivial, trivial⟩)
      · have e5 := hag 5 rfl; have E5 := e5; rw [Array.getD_eq_getD_getElem?] at E5; refine FreeOp.of _ rfl rfl _ rfl fun K hK => ?_
        go_simp
        exact hK _ _ rfl (Below.refl _ _) (fun j hj hL hji => ⟨trivial, trivial⟩)
      · have e25 : a.tmps.getD 25 undef = _ := hR 4 (by omega) (hn 4 rfl); have E25 := e25; rw [Array.getD_eq_getD_getElem?] at E25; refine FreeOp.of _ rfl rfl _ rfl fun K hK => ?_
        go_simp
        exact hK _ _ rfl (Below.refl _ _) (fun j hj hL hji => ⟨trivial, trivial⟩)
      · have e5 := hag 5 rfl; have E5 := e5; rw [Array.getD_eq_getD_getElem?] at E5; refine FreeOp.of _ rfl rfl _ rfl fun K hK => ?_
        go_simp
        exact hK _ _ rfl (Below.refl _ _) (fun j hj hL hji => ⟨trivial, trivial⟩)
      · have e27 : a.tmps.getD 27 undef = _ := hR 6 (by omega) (hn 6 rfl); have E27 := e27; rw [Array.getD_eq_getD_getElem?] at E27; refine FreeOp.of _ rfl rfl _ rfl fun K hK => ?_
        go_simp
        exact hK _ _ rfl (Below.refl _ _) (fun j hj hL hji => ⟨trivial, trivial⟩)
      · have e5 := hag 5 rfl; have E5 := e5; rw [Array.getD_eq_getD_getElem?] at E5; refine FreeOp.of _ rfl rfl _ rfl fun K hK => ?_
        go_simp
        exact hK _ _ rfl (Below.refl _ _) (fun j hj hL hji => ⟨trivial, trivial⟩)
      · have e29 : a.tmps.getD 29 undef = _ := hR 8 (by omega) (hn 8 rfl); have E29 := e29; rw [Array.getD_eq_getD_getElem?] at E29; refine FreeOp.of _ rfl rfl _ rfl fun K hK => ?_
        go_simp
        exact hK _ _ rfl (Below.refl _ _) (fun j hj hL hji => ⟨trivial, trivial⟩)
      · have e28 : a.tmps.getD 28 undef = _ := hR 7 (by omega) (hn 7 rfl); have E28 := e28; rw [Array.getD_eq_getD_getElem?] at E28; have e30 : a.tmps.getD 30 undef = _ := hR 9 (by omega) (hn 9 rfl); have E30 := e30; rw [Array.getD_eq_getD_getElem?] at E30; refine FreeOp.of _ rfl rfl _ rfl fun K hK => ?_
        go_simp
        refine (Words_post (B := B) (HE.out.mono (Below.mono (B := w.heap.size) (by (repeat (first | exact Below.refl _ _ | assumption | refine Below.setCell ?_ (by (try simp); (try omega)) _ | refine Below.alloc ?_ (by (try simp); (try omega)) _ | refine below_setRow ?_ (by (try simp); (try omega)) _ | refine pw_below_drewN ?_ _ | refine Below.drew ?_))) hB) (Nat.le_refl _)) _ _ e0 e1 c0 (by omega)).mono ?_; rintro e w' ⟨rfl, hb⟩; exact hK _ _ rfl hb (fun j hj hL hji => ⟨trivial, trivial⟩)
      · have e21 : a.tmps.getD 21 undef = _ := hR 0 (by omega) (hn 0 rfl); have E21 := e21; rw [Array.getD_eq_getD_getElem?] at E21; have e22 : a.tmps.getD 22 undef = _ := hR 1 (by omega) (hn 1 rfl); have E22 := e22; rw [Array.getD_eq_getD_getElem?] at E22; have e24 : a.tmps.getD 24 undef = _ := hR 3 (by omega) (hn 3 rfl); have E24 := e24; rw [Array.getD_eq_getD_getElem?] at E24; have e26 : a.tmps.getD 26 undef = _ := hR 5 (by omega) (hn 5 rfl); have E26 := e26; rw [Array.getD_eq_getD_getElem?] at E26; have e31 : a.tmps.getD 31 undef = _ := hR 10 (by omega) (hn 10 rfl); have E31 := e31; rw [Array.getD_eq_getD_getElem?] at E31; refine FreeOp.of _ rfl rfl _ rfl fun K hK => ?_
        go_simp
        exact hK _ _ rfl (Below.refl _ _) (fun j hj hL hji => ⟨trivial, trivial⟩)
      · refine FreeOp.of _ rfl rfl _ rfl fun K hK => ?_
        go_simp
        exact hK _ _ ⟨W.heap.size, rfl, (by have hq := hle.size; (try simp at hq); omega), by simp, _, rfl, blk_alloc_new _ _⟩ ((Below.refl _ _).alloc (Nat.le_refl _) _) (fun j hj hL hji => ⟨trivial, trivial⟩)
    · intro vs w1 hb1 hR hD
      have e0 : vs 0 = _ := hR 0 (by omega)
      have e1 : vs 1 = _ := hR 1 (by omega)
      have e2 : vs 2 = _ := hR 2 (by omega)
      have e3 : vs 3 = _ := hR 3 (by omega)
      have e4 : vs 4 = _ := hR 4 (by omega)
      have e5 : vs 5 = _ := hR 5 (by omega)
      have e6 : vs 6 = _ := hR 6 (by omega)
      have e7 : vs 7 = _ := hR 7 (by omega)
      have e8 : vs 8 = _ := hR 8 (by omega)
      have e9 : vs 9 = _ := hR 9 (by omega)
      have e10 : vs 10 = _ := hR 10 (by omega)
      have e11 : vs 11 = _ := hR 11 (by omega)
      obtain ⟨g12, e12, hg12, hl12, cs12, hs12, hk12⟩ := hR 12 (by omega)
      have hx12_0 : g12 ≠ w.heap.size := by (have hq := hg12; (try simp at hq); omega)
      have hu12_0 : w.heap.size ≠ g12 := fun h => hx12_0 h.symm
      have hx12_1 : g12 ≠ w.heap.size + 1 := by (have hq := hg12; (try simp at hq); omega)
      have hu12_1 : w.heap.size + 1 ≠ g12 := fun h => hx12_1 h.symm
      have hb1_12 : w.heap.size ≤ g12 := by omega
      have HL12 := Lib.hid (And.intro hg12 hl12); clear hg12 hl12
      simp only [putAll, slotOf, Option.bind_some, Act.put, List.getElem?_toArray, List.getElem?_cons_zero, List.getElem?_cons_succ, List.setIfInBounds_toArray, List.set_cons_zero, List.set_cons_succ, e0, e1, e2, e3, e4, e5, e6, e7, e8, e9, e10, e11, e12, List.drop_succ_cons, List.drop_zero]; clear hR hD e0 e1 e2 e3 e4 e5 e6 e7 e8 e9 e10 e11 e12
      have hB1 := below_step (w := w) (by (repeat (first | exact Below.refl _ _ | assumption | refine Below.setCell ?_ (by (try simp); (try omega)) _ | refine Below.alloc ?_ (by (try simp); (try omega)) _ | refine below_setRow ?_ (by (try simp); (try omega)) _ | refine pw_below_drewN ?_ _ | refine Below.drew ?_))) hb1; obtain ⟨hc1, hf1⟩ := bcell hb1; have hd1 := blk_below hb1; have hs1 := hB1.size; have hz1_0 : w.heap.size < w1.heap.size := (by have hq := hb1.size; (try simp at hq); omega); have hy1_0 : w.heap.size ≠ w1.heap.size := Nat.ne_of_lt hz1_0; have hk1_0 := hd1 (w.heap.size) (by (try simp); (try omega)); (try simp (disch := first | omega | (simp; omega)) only [blk_setRow_far, blk_alloc_past, blk_setCell_far, blk_drewN, blk_drew] at hk1_0); have hz1_1 : w.heap.size + 1 < w1.heap.size := (by have hq := hb1.size; (try simp at hq); omega); have hy1_1 : w.heap.size + 1 ≠ w1.heap.size := Nat.ne_of_lt hz1_1; have hk1_1 := hd1 (w.heap.size + 1) (by (try simp); (try omega)); (try simp (disch := first | omega | (simp; omega)) only [blk_setRow_far, blk_alloc_past, blk_setCell_far, blk_drewN, blk_drew] at hk1_1)
      go_wp2_with (go_at_call 134; refine (within_any (B := B) (Nat.le_trans hB (Below.size (w := w) (B := w.heap.size) (by (repeat (first | exact Below.refl _ _ | assumption | refine Below.setCell ?_ (by (try simp); (try omega)) _ | refine Below.alloc ?_ (by (try simp); (try omega)) _ | refine below_setRow ?_ (by (try simp); (try omega)) _ | refine pw_below_drewN ?_ _ | refine Below.drew ?_))))) (HS.out.mono (Below.mono (B := w.heap.size) (by (repeat (first | exact Below.refl _ _ | assumption | refine Below.setCell ?_ (by (try simp); (try omega)) _ | refine Below.alloc ?_ (by (try simp); (try omega)) _ | refine below_setRow ?_ (by (try simp); (try omega)) _ | refine pw_below_drewN ?_ _ | refine Below.drew ?_))) hB) (Nat.le_refl _)) Hw.out ⟨2, seg, start, 0, 0, p.elem, p.count, lwords p.elem p.count⟩ _ _).mono ?_; rintro e w2 ⟨rfl, hb2⟩; have hB2 := below_step (w := w) (by (repeat (first | exact Below.refl _ _ | assumption | refine Below.setCell ?_ (by (try simp); (try omega)) _ | refine Below.alloc ?_ (by (try simp); (try omega)) _ | refine below_setRow ?_ (by (try simp); (try omega)) _ | refine pw_below_drewN ?_ _ | refine Below.drew ?_))) hb2; obtain ⟨hc2, hf2⟩ := bcell hb2; have hd2 := blk_below hb2; have hs2 := hB2.size; have hz2_0 : w.heap.size < w2.heap.size := (by have hq := hb2.size; (try simp at hq); omega); have hy2_0 : w.heap.size ≠ w2.heap.size := Nat.ne_of_lt hz2_0; have hk2_0 := hd2 (w.heap.size) (by (try simp); (try omega)); (try simp (disch := first | omega | (simp; omega)) only [blk_setRow_far, blk_alloc_past, blk_setCell_far, blk_drewN, blk_drew] at hk2_0); have hz2_1 : w.heap.size + 1 < w2.heap.size := (by have hq := hb2.size; (try simp at hq); omega); have hy2_1 : w.heap.size + 1 ≠ w2.heap.size := Nat.ne_of_lt hz2_1; have hk2_1 := hd2 (w.heap.size + 1) (by (try simp); (try omega)); (try simp (disch := first | omega | (simp; omega)) only [blk_setRow_far, blk_alloc_past, blk_setCell_far, blk_drewN, blk_drew] at hk2_1))
      refine bodyPost_ret (v := vObE (within ss ⟨2, seg, start, 0, 0, p.elem, p.count, lwords p.elem p.count⟩ start (lwords p.elem p.count))) ((results_blk2 _ st_Object rfl _ ((w.heap.size + 1) ) rfl (by simp [go_sem, hd2, hz2_0, hz2_1, hy2_0, hy2_1, hd1, hz1_0, hz1_1, hy1_0, hy1_1, hx12_0, hx12_1, hu12_0, hu12_1, hk12, hs12]) (by simp [go_sem, hd2, hz2_0, hz2_1, hy2_0, hy2_1, hd1, hz1_0, hz1_1, hy1_0, hy1_1, hx12_0, hx12_1, hu12_0, hu12_1, hk12, hs12])).trans (by simp [go_sem, hd2, hz2_0, hz2_1, hy2_0, hy2_1, hd1, hz1_0, hz1_1, hy1_0, hy1_1, hx12_0, hx12_1, hu12_0, hu12_1, hk12, hs12]; try omega)) rfl ⟨rfl, ?_⟩
      (repeat (first | exact Below.refl _ _ | assumption | refine Below.setCell ?_ (by (try simp); (try omega)) _ | refine Below.alloc ?_ (by (try simp); (try omega)) _ | refine below_setRow ?_ (by (try simp); (try omega)) _ | refine pw_below_drewN ?_ _ | refine Below.drew ?_))
theorem Element_any (o : Ob) (i : Int) (w : World) (d0 : 0 ≤ o.data) (d1 : o.data < 65536) (p0 : 0 ≤ o.ptrs) (p1 : o.ptrs < 65536) (i0 : 0 ≤ i) (i1 : i < 4294967296) (a0 : 0 ≤ o.at_) (a1 : o.at_ < 4611686018427387904) :
    Calls Tryd.prog 75 #[vOb o, .int .i64 i] w (VPost w (vOb (element o i))) := by
  obtain ⟨m0, m1⟩ := mul_bd i0 (Int.le_of_lt i1) (show 0 ≤ o.data + o.ptrs by omega) (show o.data + o.ptrs ≤ 131072 by omega)
  go_enter Tryd.func75, Tryd.ntmps75
  go_wp2
  refine bodyPost_ret (v := vOb (element o i)) ((results_blk _ st_Object rfl _ ((w.heap.size + 1) ) rfl (by simp [go_sem, element]) (by simp [go_sem, element])).trans (by simp [go_sem, element]; try omega)) rfl ⟨rfl, ?_⟩
  (repeat (first | exact Below.refl _ _ | assumption | refine Below.setCell ?_ (by (try simp); (try omega)) _ | refine Below.alloc ?_ (by (try simp); (try omega)) _ | refine below_setRow ?_ (by (try simp); (try omega)) _ | refine pw_below_drewN ?_ _ | refine Below.drew ?_))
set_option maxHeartbeats 1000000 in
theorem Pointers_any (o : Ob) (w : World) (d0 : 0 ≤ o.data) (d1 : o.data < 65536) (a0 : 0 ≤ o.at_) (a1 : o.at_ < 4611686018427387904) :
    Calls Tryd.prog 128 #[vOb o] w (VPost w (.tuple #[.int .i64 (pointersOf o).1, .int .i64 (pointersOf o).2])) := by
  by_cases h1 : o.kind = 1 ∧ 0 < o.ptrs
  · have hs : pointersOf o = (o.at_ + o.data, o.ptrs) := by unfold pointersOf; rw [if_pos h1]
    rw [hs]
    clear hs
    obtain ⟨k, sg, at_, da, pt, el, n, co⟩ := o
    simp only at *
    obtain ⟨rfl, h2⟩ := h1
    go_enter Tryd.func128, Tryd.ntmps128
    go_wp2
    go_quiet (fail)
    go_wp2
    go_ret2
    refine ⟨rfl, ?_⟩
    (repeat (first | exact Below.refl _ _ | assumption | refine Below.setCell ?_ (by (try simp); (try omega)) _ | refine Below.alloc ?_ (by (try simp); (try omega)) _ | refine below_setRow ?_ (by (try simp); (try omega)) _ | refine pw_below_drewN ?_ _ | refine Below.drew ?_))
  · by_cases h2 : o.kind = 2 ∧ o.elem = 6 ∧ 0 < o.n
    · have hs : pointersOf o = (o.at_, o.n) := by unfold pointersOf; rw [if_neg h1, if_pos h2]
      rw [hs]
      clear hs h1
      obtain ⟨k, sg, at_, da, pt, el, n, co⟩ := o
      simp only at *
      obtain ⟨rfl, rfl, h2⟩ := h2
      go_enter Tryd.func128, Tryd.ntmps128
      go_wp2
      go_quiet (fail)
      go_wp2
      go_ret2
      refine ⟨rfl, ?_⟩
      (repeat (first | exact Below.refl _ _ | assumption | refine Below.setCell ?_ (by (try simp); (try omega)) _ | refine Below.alloc ?_ (by (try simp); (try omega)) _ | refine below_setRow ?_ (by (try simp); (try omega)) _ | refine pw_below_drewN ?_ _ | refine Below.drew ?_))
    · have hs : pointersOf o = (0, 0) := by unfold pointersOf; rw [if_neg h1, if_neg h2]
      rw [hs]
      clear hs
      by_cases k1 : o.kind = 1
      · have k2 : ¬ 0 < o.ptrs := fun h => h1 ⟨k1, h⟩
        obtain ⟨k, sg, at_, da, pt, el, n, co⟩ := o
        simp only at *
        subst k1
        clear h1 h2
        go_enter Tryd.func128, Tryd.ntmps128
        go_wp2
        go_ret2
        refine ⟨rfl, ?_⟩
        (repeat (first | exact Below.refl _ _ | assumption | refine Below.setCell ?_ (by (try simp); (try omega)) _ | refine Below.alloc ?_ (by (try simp); (try omega)) _ | refine below_setRow ?_ (by (try simp); (try omega)) _ | refine pw_below_drewN ?_ _ | refine Below.drew ?_))
      · by_cases k2 : o.kind = 2
        · by_cases k3 : o.elem = 6
          · have k4 : ¬ 0 < o.n := fun h => h2 ⟨k2, k3, h⟩
            obtain ⟨k, sg, at_, da, pt, el, n, co⟩ := o
            simp only at *
            subst k2 k3
            clear h1 h2
            go_enter Tryd.func128, Tryd.ntmps128
            go_wp2
            go_ret2
            refine ⟨rfl, ?_⟩
            (repeat (first | exact Below.refl _ _ | assumption | refine Below.setCell ?_ (by (try simp); (try omega)) _ | refine Below.alloc ?_ (by (try simp); (try omega)) _ | refine below_setRow ?_ (by (try simp); (try omega)) _ | refine pw_below_drewN ?_ _ | refine Below.drew ?_))
          · obtain ⟨k, sg, at_, da, pt, el, n, co⟩ := o
            simp only at *
            subst k2
            clear h1 h2
            go_enter Tryd.func128, Tryd.ntmps128
            go_wp2
            go_ret2
            refine ⟨rfl, ?_⟩
            (repeat (first | exact Below.refl _ _ | assumption | refine Below.setCell ?_ (by (try simp); (try omega)) _ | refine Below.alloc ?_ (by (try simp); (try omega)) _ | refine below_setRow ?_ (by (try simp); (try omega)) _ | refine pw_below_drewN ?_ _ | refine Below.drew ?_))
        · clear h1 h2
          go_enter Tryd.func128, Tryd.ntmps128
          go_wp2
          go_ret2
          refine ⟨rfl, ?_⟩
          (repeat (first | exact Below.refl _ _ | assumption | refine Below.setCell ?_ (by (try simp); (try omega)) _ | refine Below.alloc ?_ (by (try simp); (try omega)) _ | refine below_setRow ?_ (by (try simp); (try omega)) _ | refine pw_below_drewN ?_ _ | refine Below.drew ?_))
end Go.Proofs.YtelghkgnkncnoaaDoor
/- Contract of resolve.Object. -/
set_option linter.unusedVariables false
set_option linter.unusedSimpArgs false
namespace Go.Proofs.YtelghkgnkncnoaaDoor
open Go.RowKit
def sizeIs (P : Program) (ty : TypeId) (n : Nat) : Bool := ((P.info? ty).map (·.size) == some n)
theorem store_cells {P : Program} {ty : TypeId} {n : Nat} (ht : sizeIs P ty n = true) (g : Nat) (cs : Array Value) (W : World) (h1 : isOpen (blk W g) = true) (h2 : rowSize (blk W g) = n) (hc : cs.size = n) (ho : cs.toList.all (·.oneCell') = true) :
    (Instr.storeAt ty (.pointer (some ⟨g, 0, none⟩)) (.agg cs)).run P W = .ok () (W.setRow g cs) := by
  unfold blk at *
  obtain ⟨old, T, hw⟩ := open_of h1
  rw [hw] at h2
  simp only [rowSize] at h2
  simp only [sizeIs, beq_iff_eq] at ht
  cases hi : P.info? ty with
  | none => rw [hi] at ht; simp at ht
  | some i =>
    have hs : i.size = n := by rw [hi] at ht; simpa using ht
    simp only [Instr.storeAt, Instr.sureAddr, storeVar, sizeOf, typeInfo, Sem.run_bind, Sem.run_pure, Result.andThen_ok, Value.cells]
    have hst := run_storeCells_at P g 0 T cs.toList 0 old W hw (by simp; omega) (fun v hv => (List.all_eq_true.1 ho) v hv)
    have hd : old.toList.drop cs.size = [] := List.drop_eq_nil_of_le (by simp; omega)
    simp only [Nat.zero_add, List.take_zero, List.nil_append, Array.length_toList, hd, List.append_nil, Array.toArray_toList] at hst
    simp [hi, hs, hc, hst, Sem.run_bind]
theorem exec_store' {P : Program} {ty : TypeId} {n : Nat} (ht : sizeIs P ty n = true) (a : Act) (dst : Option Tmp) (x y : Operand) (t : TypeId) (pos : String) (after : Array Edge) (gd : Option (Nat × Bool)) (w : World) (h : storeCond n (a.eval x) (a.eval y) w = true) :
    (execOp a.eval ⟨dst, .store ty x y, t, pos, after, gd⟩).run P w = .ok .skip (storeWorld (a.eval x) (a.eval y) w) := by
  simp only [execOp]
  generalize a.eval x = X at *
  generalize a.eval y = Y at *
  unfold storeCond at h
  split at h
  · simp only [Bool.and_eq_true, beq_iff_eq] at h
    obtain ⟨h1, h2, h3, h4⟩ := h
    rw [Sem.run_bind, store_cells ht _ _ w h1 h2 h3 h4]
    rfl
  · cases h
theorem st_table : sizeIs Tryd.prog 124 4 = true := by kernel_rfl
@[go_sem ↓] theorem xs_table (a : Act) (dst : Option Tmp) (x y : Operand) (t : TypeId) (pos : String) (after : Array Edge) (gd : Option (Nat × Bool)) (w : World) (h : storeCond 4 (a.eval x) (a.eval y) w = true) :
    (execOp a.eval ⟨dst, .store 124 x y, t, pos, after, gd⟩).run Tryd.prog w = .ok .skip (storeWorld (a.eval x) (a.eval y) w) := exec_store' st_table a dst x y t pos after gd w h
theorem follow_in {ss : List (List Int)} (hw : WFS ss) (seg at_ : Int) (h : (follow ss seg at_).err = 0) : U64 (follow ss seg at_).w ∧ 0 ≤ (follow ss seg at_).base ∧ (follow ss seg at_).base ≤ 536870912 := by
  revert h
  unfold follow
  split
  · intro h; simp at h
  · rename_i hb
    have hb' : inB ss seg at_ 1 = true := by simpa using hb
    obtain ⟨h0, h1, h2, h3, h4, h5⟩ := inB_of hb'
    have hsl := segLen_bd hw seg
    dsimp only
    split
    · split
      · unfold double
        dsimp only
        split
        · intro h; simp at h
        · split
          · intro h; simp at h
          · intro _
            obtain ⟨q0, q1⟩ := (decodeI_in (wordAt ss (decodeI (wordAt ss seg at_)).seg (decodeI (wordAt ss seg at_)).pad)).pad
            exact ⟨wordAt_U64 hw _ _, q0, by dsimp only; omega⟩
      · unfold single
        dsimp only
        split
        · intro h; simp at h
        · split
          · intro h; simp at h
          · intro _
            obtain ⟨q0, q1⟩ := (decodeI_in (wordAt ss seg at_)).pad
            exact ⟨wordAt_U64 hw _ _, by dsimp only; omega, by dsimp only; omega⟩
    · intro _
      exact ⟨wordAt_U64 hw _ _, by dsimp only; omega, by dsimp only; omega⟩
theorem other3 {w : World} {A : Option Addr} {n c : Nat} {R : Ob × Int} (of da pt el co : Int) (db : Bool) (pd sg lo x y : Int) (hR : (if lo = 0 then (Ob.zero, 6) else (Ob.zero, 4)) = R) :
    Calls Tryd.prog 82 #[.slice A n c, vPtr ⟨3, of, da, pt, el, co, db, pd, sg, lo⟩, .int .i64 x, .int .i64 y] w (VPost w (vObE R)) := by
  refine (other_any ⟨3, of, da, pt, el, co, db, pd, sg, lo⟩ x y).mono ?_
  rintro e w' ⟨he, hb⟩
  refine ⟨?_, hb⟩
  rw [he, ← hR]
  simp
set_option maxRecDepth 100000 in
set_option maxHeartbeats 4000000 in
theorem Object_any {B : Nat} {w : World} {A : Option Addr} {n c : Nat} {ss : List (List Int)} (hE : Env B w) (hB : B ≤ w.heap.size) (hS : RS B w A n ss) (hw : WFS ss) (seg at_ : Int) :
    Calls Tryd.prog 48 #[.slice A n c, .int .i64 seg, .int .i64 at_] w (VPost w (vObE (object ss seg at_))) := by
  have HE := Lib.hid hE
  have HS := Lib.hid hS
  have Hw := Lib.hid hw
  have HF := Lib.hid (follow_in hw seg at_)
  clear hE hS hw
  by_cases he : (follow ss seg at_).err = 0
  · obtain ⟨hu, b0, b1⟩ := HF.out he
    have HU := Lib.hid hu
    clear hu
    by_cases hz : (follow ss seg at_).w = 0
    · have hs : object ss seg at_ = (Ob.zero, (follow ss seg at_).err) := by unfold object; dsimp only; rw [if_pos (.inr hz)]
      have Hs := Lib.hid hs
      clear hs
      go_enter Tryd.func48, Tryd.ntmps48
      go_wp2_with (first | (go_at_call 77; refine (Follow_any (B := B) (HE.out.mono (Below.mono (B := w.heap.size) (by (repeat (first | exact Below.refl _ _ | assumption | refine Below.setCell ?_ (by (try simp); (try omega)) _ | refine Below.alloc ?_ (by (try simp); (try omega)) _ | refine below_setRow ?_ (by (try simp); (try omega)) _ | refine pw_below_drewN ?_ _ | refine Below.drew ?_))) hB) (Nat.le_refl _)) (Nat.le_trans hB (Below.size (w := w) (B := w.heap.size) (by (repeat (first | exact Below.refl _ _ | assumption | refine Below.setCell ?_ (by (try simp); (try omega)) _ | refine Below.alloc ?_ (by (try simp); (try omega)) _ | refine below_setRow ?_ (by (try simp); (try omega)) _ | refine pw_below_drewN ?_ _ | refine Below.drew ?_))))) (HS.out.mono (Below.mono (B := w.heap.size) (by (repeat (first | exact Below.refl _ _ | assumption | refine Below.setCell ?_ (by (try simp); (try omega)) _ | refine Below.alloc ?_ (by (try simp); (try omega)) _ | refine below_setRow ?_ (by (try simp); (try omega)) _ | refine pw_below_drewN ?_ _ | refine Below.drew ?_))) hB) (Nat.le_refl _)) Hw.out _ _).mono ?_; rintro e w1 ⟨rfl, hb1⟩; have hB1 := below_step (w := w) (by (repeat (first | exact Below.refl _ _ | assumption | refine Below.setCell ?_ (by (try simp); (try omega)) _ | refine Below.alloc ?_ (by (try simp); (try omega)) _ | refine below_setRow ?_ (by (try simp); (try omega)) _ | refine pw_below_drewN ?_ _ | refine Below.drew ?_))) hb1; obtain ⟨hc1, hf1⟩ := bcell hb1; have hd1 := blk_below hb1; have hs1 := hB1.size; have hz1_0 : w.heap.size < w1.heap.size := (by have hq := hb1.size; (try simp at hq); omega); have hy1_0 : w.heap.size ≠ w1.heap.size := Nat.ne_of_lt hz1_0; have hk1_0 := hd1 (w.heap.size) (by (try simp); (try omega)); (try simp (disch := first | omega | (simp; omega)) only [blk_setRow_far, blk_alloc_past, blk_setCell_far, blk_drewN, blk_drew] at hk1_0)) | (go_at_call 78; refine (IsNull_any _ _).mono ?_; rintro e w2 ⟨rfl, hw2⟩; subst w2))
      refine bodyPost_ret (v := vObE (Ob.zero, (follow ss seg at_).err)) ((results_blk2 _ st_Object rfl _ (w.heap.size ) rfl (by simp [go_sem, Ob.zero, hd1, hz1_0, hy1_0, he, hz]) (by simp [go_sem, Ob.zero, hd1, hz1_0, hy1_0, he, hz])).trans (by simp [go_sem, Ob.zero, hd1, hz1_0, hy1_0, he, hz]; try omega)) rfl ⟨by rw [Hs.out], ?_⟩
      (repeat (first | exact Below.refl _ _ | assumption | refine Below.setCell ?_ (by (try simp); (try omega)) _ | refine Below.alloc ?_ (by (try simp); (try omega)) _ | refine below_setRow ?_ (by (try simp); (try omega)) _ | refine pw_below_drewN ?_ _ | refine Below.drew ?_))
    · have hs : object ss seg at_ = place_ ss (decodeI (follow ss seg at_).w) (follow ss seg at_).seg ((follow ss seg at_).base + (decodeI (follow ss seg at_).w).offset) := by
        unfold object; dsimp only; rw [if_neg (by rintro (h | h) <;> contradiction)]
      rw [hs]
      clear hs
      generalize hF : follow ss seg at_ = F at *
      have HFo := Lib.hid hF
      have HP := Lib.hid (decodeI_in F.w)
      obtain ⟨k0, k1⟩ := HP.out.kind
      obtain ⟨o0, o1⟩ := HP.out.offset
      have hpk : (decodeI F.w).kind = 0 ∨ (decodeI F.w).kind = 1 ∨ (decodeI F.w).kind = 2 ∨ (decodeI F.w).kind = 3 := by omega
      generalize hD : decodeI F.w = p at *
      have HDo := Lib.hid hD
      clear hF hD k0 k1
      obtain ⟨k0, of, da, pt, el, co, db, pd, sg, lo⟩ := p
      simp only at hpk o0 o1
      dsimp only
      have hwr : IntKind.i64.wrap (F.base + of) = F.base + of := by rw [IntKind.wrap_i64]; omega
      rcases hpk with rfl | rfl | rfl | rfl
      · go_enter Tryd.func48, Tryd.ntmps48
        go_wp2_with (first | (go_at_call 77; refine (Follow_any (B := B) (HE.out.mono (Below.mono (B := w.heap.size) (by (repeat (first | exact Below.refl _ _ | assumption | refine Below.setCell ?_ (by (try simp); (try omega)) _ | refine Below.alloc ?_ (by (try simp); (try omega)) _ | refine below_setRow ?_ (by (try simp); (try omega)) _ | refine pw_below_drewN ?_ _ | refine Below.drew ?_))) hB) (Nat.le_refl _)) (Nat.le_trans hB (Below.size (w := w) (B := w.heap.size) (by (repeat (first | exact Below.refl _ _ | assumption | refine Below.setCell ?_ (by (try simp); (try omega)) _ | refine Below.alloc ?_ (by (try simp); (try omega)) _ | refine below_setRow ?_ (by (try simp); (try omega)) _ | refine pw_below_drewN ?_ _ | refine Below.drew ?_))))) (HS.out.mono (Below.mono (B := w.heap.size) (by (repeat (first | exact Below.refl _ _ | assumption | refine Below.setCell ?_ (by (try simp); (try omega)) _ | refine Below.alloc ?_ (by (try simp); (try omega)) _ | refine below_setRow ?_ (by (try simp); (try omega)) _ | refine pw_below_drewN ?_ _ | refine Below.drew ?_))) hB) (Nat.le_refl _)) Hw.out _ _).mono ?_; rw [HFo.out]; rintro e w1 ⟨rfl, hb1⟩; have hB1 := below_step (w := w) (by (repeat (first | exact Below.refl _ _ | assumption | refine Below.setCell ?_ (by (try simp); (try omega)) _ | refine Below.alloc ?_ (by (try simp); (try omega)) _ | refine below_setRow ?_ (by (try simp); (try omega)) _ | refine pw_below_drewN ?_ _ | refine Below.drew ?_))) hb1; obtain ⟨hc1, hf1⟩ := bcell hb1; have hd1 := blk_below hb1; have hs1 := hB1.size; have hz1_0 : w.heap.size < w1.heap.size := (by have hq := hb1.size; (try simp at hq); omega); have hy1_0 : w.heap.size ≠ w1.heap.size := Nat.ne_of_lt hz1_0; have hk1_0 := hd1 (w.heap.size) (by (try simp); (try omega)); (try simp (disch := first | omega | (simp; omega)) only [blk_setRow_far, blk_alloc_past, blk_setCell_far, blk_drewN, blk_drew] at hk1_0)) | (go_at_call 78; refine (IsNull_any _ _).mono ?_; rintro e w2 ⟨rfl, hw2⟩; subst w2) |
          (go_at_call 79; refine (Decode_any (B := B) (HE.out.mono (Below.mono (B := w.heap.size) (by (repeat (first | exact Below.refl _ _ | assumption | refine Below.setCell ?_ (by (try simp); (try omega)) _ | refine Below.alloc ?_ (by (try simp); (try omega)) _ | refine below_setRow ?_ (by (try simp); (try omega)) _ | refine pw_below_drewN ?_ _ | refine Below.drew ?_))) hB) (Nat.le_refl _)) (Nat.le_trans hB (Below.size (w := w) (B := w.heap.size) (by (repeat (first | exact Below.refl _ _ | assumption | refine Below.setCell ?_ (by (try simp); (try omega)) _ | refine Below.alloc ?_ (by (try simp); (try omega)) _ | refine below_setRow ?_ (by (try simp); (try omega)) _ | refine pw_below_drewN ?_ _ | refine Below.drew ?_))))) _ HU.out).mono ?_; rw [HDo.out]; rintro e w2 ⟨rfl, hb2⟩; have hB2 := below_step (w := w) (by (repeat (first | exact Below.refl _ _ | assumption | refine Below.setCell ?_ (by (try simp); (try omega)) _ | refine Below.alloc ?_ (by (try simp); (try omega)) _ | refine below_setRow ?_ (by (try simp); (try omega)) _ | refine pw_below_drewN ?_ _ | refine Below.drew ?_))) hb2; obtain ⟨hc2, hf2⟩ := bcell hb2; have hd2 := blk_below hb2; have hs2 := hB2.size; have hz2_0 : w.heap.size < w2.heap.size := (by have hq := hb2.size; (try simp at hq); omega); have hy2_0 : w.heap.size ≠ w2.heap.size := Nat.ne_of_lt hz2_0; have hk2_0 := hd2 (w.heap.size) (by (try simp); (try omega)); (try simp (disch := first | omega | (simp; omega)) only [blk_setRow_far, blk_alloc_past, blk_setCell_far, blk_drewN, blk_drew] at hk2_0)))
        refine wp_region_splitB 14 mixed (by kernel_rfl) ?_; simp only [List.take_succ_cons, List.take_zero, List.drop_succ_cons, List.drop_zero]; (repeat ((try go_simp); refine wpQuiet_step (fun K hK => ?_); first | (refine quiet_take rfl ?_ ?_ ?_; rotate_left; (intro W hW; have hW : Below _ _ _ := hW; obtain ⟨hcW, hfW⟩ := bcell hW; have hdW := blk_below hW; have hsW := hW.size; have hBW := below_step (w := w) (by (repeat (first | exact Below.refl _ _ | assumption | refine Below.setCell ?_ (by (try simp); (try omega)) _ | refine Below.alloc ?_ (by (try simp); (try omega)) _ | refine below_setRow ?_ (by (try simp); (try omega)) _ | refine pw_below_drewN ?_ _ | refine Below.drew ?_))) hW; go_simp <;> rfl); refine hK _ ?_; clear hK K) | (refine quiet_skip rfl ?_; refine hK _ ?_; clear hK K) | (refine quiet_call rfl ?_ ?_ ?_ ?_ ?_ ?_; rotate_left; rotate_left; rotate_left; (intro W hW; have hW : Below _ _ _ := hW; obtain ⟨hcW, hfW⟩ := bcell hW; have hdW := blk_below hW; have hsW := hW.size; have hBW := below_step (w := w) (by (repeat (first | exact Below.refl _ _ | assumption | refine Below.setCell ?_ (by (try simp); (try omega)) _ | refine Below.alloc ?_ (by (try simp); (try omega)) _ | refine below_setRow ?_ (by (try simp); (try omega)) _ | refine pw_below_drewN ?_ _ | refine Below.drew ?_))) hW; go_simp; refine ⟨?_, ?_⟩ <;> rfl); (intro W hW; have hW : Below _ _ _ := hW; obtain ⟨hcW, hfW⟩ := bcell hW; have hdW := blk_below hW; have hsW := hW.size; have hBW := below_step (w := w) (by (repeat (first | exact Below.refl _ _ | assumption | refine Below.setCell ?_ (by (try simp); (try omega)) _ | refine Below.alloc ?_ (by (try simp); (try omega)) _ | refine below_setRow ?_ (by (try simp); (try omega)) _ | refine pw_below_drewN ?_ _ | refine Below.drew ?_))) hW; (refine (structure_any (B := B) (Nat.le_trans hB (Below.size (w := w) (B := w.heap.size) (by (repeat (first | exact Below.refl _ _ | assumption | refine Below.setCell ?_ (by (try simp); (try omega)) _ | refine Below.alloc ?_ (by (try simp); (try omega)) _ | refine below_setRow ?_ (by (try simp); (try omega)) _ | refine pw_below_drewN ?_ _ | refine Below.drew ?_))))) (HS.out.mono (Below.mono (B := w.heap.size) (by (repeat (first | exact Below.refl _ _ | assumption | refine Below.setCell ?_ (by (try simp); (try omega)) _ | refine Below.alloc ?_ (by (try simp); (try omega)) _ | refine below_setRow ?_ (by (try simp); (try omega)) _ | refine pw_below_drewN ?_ _ | refine Below.drew ?_))) hB) (Nat.le_refl _)) Hw.out ⟨0, of, da, pt, el, co, db, pd, sg, lo⟩ HP.out _ _).mono ?_; rintro e w'' ⟨rfl, hb⟩; refine ⟨?_, hW.trans (hb.mono hW.size)⟩; rfl)); refine hK _ ?_; clear hK K))); refine wpQuiet_nil ?_; intro w3 hb3; have hb3 : Below _ _ _ := hb3; have hB3 := below_step (w := w) (by (repeat (first | exact Below.refl _ _ | assumption | refine Below.setCell ?_ (by (try simp); (try omega)) _ | refine Below.alloc ?_ (by (try simp); (try omega)) _ | refine below_setRow ?_ (by (try simp); (try omega)) _ | refine pw_below_drewN ?_ _ | refine Below.drew ?_))) hb3; obtain ⟨hc3, hf3⟩ := bcell hb3; have hd3 := blk_below hb3; have hs3 := hB3.size; have hz3_0 : w.heap.size < w3.heap.size := (by have hq := hb3.size; (try simp at hq); omega); have hy3_0 : w.heap.size ≠ w3.heap.size := Nat.ne_of_lt hz3_0; have hk3_0 := hd3 (w.heap.size) (by (try simp); (try omega)); (try simp (disch := first | omega | (simp; omega)) only [blk_setRow_far, blk_alloc_past, blk_setCell_far, blk_drewN, blk_drew] at hk3_0)
        go_wp2
        refine bodyPost_ret (v := vObE (within ss ⟨1, F.seg, F.base + of, da, pt, 0, 0, da + pt⟩ (F.base + of) (da + pt))) ((results_blk2 _ st_Object rfl _ (w.heap.size ) rfl (by simp [go_sem, hk3_0, hk2_0, hk1_0]) (by simp [go_sem, hk3_0, hk2_0, hk1_0])).trans (by simp [go_sem, hk3_0, hk2_0, hk1_0]; try omega)) rfl ⟨ret_val (by simp [place_]), ?_⟩
        (repeat (first | exact Below.refl _ _ | assumption | refine Below.setCell ?_ (by (try simp); (try omega)) _ | refine Below.alloc ?_ (by (try simp); (try omega)) _ | refine below_setRow ?_ (by (try simp); (try omega)) _ | refine pw_below_drewN ?_ _ | refine Below.drew ?_))
      · obtain ⟨R, hR⟩ : ∃ R : Ob × Int, (if el = 7 then composite ss ⟨1, of, da, pt, el, co, db, pd, sg, lo⟩ F.seg (F.base + of) else within ss ⟨2, F.seg, F.base + of, 0, 0, el, co, lwords el co⟩ (F.base + of) (lwords el co)) = R := ⟨_, rfl⟩
        have HR := Lib.hid hR
        clear hR
        go_enter Tryd.func48, Tryd.ntmps48
        go_wp2_with (first | (go_at_call 77; refine (Follow_any (B := B) (HE.out.mono (Below.mono (B := w.heap.size) (by (repeat (first | exact Below.refl _ _ | assumption | refine Below.setCell ?_ (by (try simp); (try omega)) _ | refine Below.alloc ?_ (by (try simp); (try omega)) _ | refine below_setRow ?_ (by (try simp); (try omega)) _ | refine pw_below_drewN ?_ _ | refine Below.drew ?_))) hB) (Nat.le_refl _)) (Nat.le_trans hB (Below.size (w := w) (B := w.heap.size) (by (repeat (first | exact Below.refl _ _ | assumption | refine Below.setCell ?_ (by (try simp); (try omega)) _ | refine Below.alloc ?_ (by (try simp); (try omega)) _ | refine below_setRow ?_ (by (try simp); (try omega)) _ | refine pw_below_drewN ?_ _ | refine Below.drew ?_))))) (HS.out.mono (Below.mono (B := w.heap.size) (by (repeat (first | exact Below.refl _ _ | assumption | refine Below.setCell ?_ (by (try simp); (try omega)) _ | refine Below.alloc ?_ (by (try simp); (try omega)) _ | refine below_setRow ?_ (by (try simp); (try omega)) _ | refine pw_below_drewN ?_ _ | refine Below.drew ?_))) hB) (Nat.le_refl _)) Hw.out _ _).mono ?_; rw [HFo.out]; rintro e w1 ⟨rfl, hb1⟩; have hB1 := below_step (w := w) (by (repeat (first | exact Below.refl _ _ | assumption | refine Below.setCell ?_ (by (try simp); (try omega)) _ | refine Below.alloc ?_ (by (try simp); (try omega)) _ | refine below_setRow ?_ (by (try simp); (try omega)) _ | refine pw_below_drewN ?_ _ | refine Below.drew ?_))) hb1; obtain ⟨hc1, hf1⟩ := bcell hb1; have hd1 := blk_below hb1; have hs1 := hB1.size; have hz1_0 : w.heap.size < w1.heap.size := (by have hq := hb1.size; (try simp at hq); omega); have hy1_0 : w.heap.size ≠ w1.heap.size := Nat.ne_of_lt hz1_0; have hk1_0 := hd1 (w.heap.size) (by (try simp); (try omega)); (try simp (disch := first | omega | (simp; omega)) only [blk_setRow_far, blk_alloc_past, blk_setCell_far, blk_drewN, blk_drew] at hk1_0)) | (go_at_call 78; refine (IsNull_any _ _).mono ?_; rintro e w2 ⟨rfl, hw2⟩; subst w2) |
          (go_at_call 79; refine (Decode_any (B := B) (HE.out.mono (Below.mono (B := w.heap.size) (by (repeat (first | exact Below.refl _ _ | assumption | refine Below.setCell ?_ (by (try simp); (try omega)) _ | refine Below.alloc ?_ (by (try simp); (try omega)) _ | refine below_setRow ?_ (by (try simp); (try omega)) _ | refine pw_below_drewN ?_ _ | refine Below.drew ?_))) hB) (Nat.le_refl _)) (Nat.le_trans hB (Below.size (w := w) (B := w.heap.size) (by (repeat (first | exact Below.refl _ _ | assumption | refine Below.setCell ?_ (by (try simp); (try omega)) _ | refine Below.alloc ?_ (by (try simp); (try omega)) _ | refine below_setRow ?_ (by (try simp); (try omega)) _ | refine pw_below_drewN ?_ _ | refine Below.drew ?_))))) _ HU.out).mono ?_; rw [HDo.out]; rintro e w2 ⟨rfl, hb2⟩; have hB2 := below_step (w := w) (by (repeat (first | exact Below.refl _ _ | assumption | refine Below.setCell ?_ (by (try simp); (try omega)) _ | refine Below.alloc ?_ (by (try simp); (try omega)) _ | refine below_setRow ?_ (by (try simp); (try omega)) _ | refine pw_below_drewN ?_ _ | refine Below.drew ?_))) hb2; obtain ⟨hc2, hf2⟩ := bcell hb2; have hd2 := blk_below hb2; have hs2 := hB2.size; have hz2_0 : w.heap.size < w2.heap.size := (by have hq := hb2.size; (try simp at hq); omega); have hy2_0 : w.heap.size ≠ w2.heap.size := Nat.ne_of_lt hz2_0; have hk2_0 := hd2 (w.heap.size) (by (try simp); (try omega)); (try simp (disch := first | omega | (simp; omega)) only [blk_setRow_far, blk_alloc_past, blk_setCell_far, blk_drewN, blk_drew] at hk2_0)))
        refine wp_region_splitB 14 mixed (by kernel_rfl) ?_; simp only [List.take_succ_cons, List.take_zero, List.drop_succ_cons, List.drop_zero]; (repeat ((try go_simp); refine wpQuiet_step (fun K hK => ?_); first | (refine quiet_take rfl ?_ ?_ ?_; rotate_left; (intro W hW; have hW : Below _ _ _ := hW; obtain ⟨hcW, hfW⟩ := bcell hW; have hdW := blk_below hW; have hsW := hW.size; have hBW := below_step (w := w) (by (repeat (first | exact Below.refl _ _ | assumption | refine Below.setCell ?_ (by (try simp); (try omega)) _ | refine Below.alloc ?_ (by (try simp); (try omega)) _ | refine below_setRow ?_ (by (try simp); (try omega)) _ | refine pw_below_drewN ?_ _ | refine Below.drew ?_))) hW; go_simp <;> rfl); refine hK _ ?_; clear hK K) | (refine quiet_skip rfl ?_; refine hK _ ?_; clear hK K) | (refine quiet_call rfl ?_ ?_ ?_ ?_ ?_ ?_; rotate_left; rotate_left; rotate_left; (intro W hW; have hW : Below _ _ _ := hW; obtain ⟨hcW, hfW⟩ := bcell hW; have hdW := blk_below hW; have hsW := hW.size; have hBW := below_step (w := w) (by (repeat (first | exact Below.refl _ _ | assumption | refine Below.setCell ?_ (by (try simp); (try omega)) _ | refine Below.alloc ?_ (by (try simp); (try omega)) _ | refine below_setRow ?_ (by (try simp); (try omega)) _ | refine pw_below_drewN ?_ _ | refine Below.drew ?_))) hW; go_simp; refine ⟨?_, ?_⟩ <;> rfl); (intro W hW; have hW : Below _ _ _ := hW; obtain ⟨hcW, hfW⟩ := bcell hW; have hdW := blk_below hW; have hsW := hW.size; have hBW := below_step (w := w) (by (repeat (first | exact Below.refl _ _ | assumption | refine Below.setCell ?_ (by (try simp); (try omega)) _ | refine Below.alloc ?_ (by (try simp); (try omega)) _ | refine below_setRow ?_ (by (try simp); (try omega)) _ | refine pw_below_drewN ?_ _ | refine Below.drew ?_))) hW; (refine (list_any (B := B) (HE.out.mono (Below.mono (B := w.heap.size) (by (repeat (first | exact Below.refl _ _ | assumption | refine Below.setCell ?_ (by (try simp); (try omega)) _ | refine Below.alloc ?_ (by (try simp); (try omega)) _ | refine below_setRow ?_ (by (try simp); (try omega)) _ | refine pw_below_drewN ?_ _ | refine Below.drew ?_))) hB) (Nat.le_refl _)) (Nat.le_trans hB (Below.size (w := w) (B := w.heap.size) (by (repeat (first | exact Below.refl _ _ | assumption | refine Below.setCell ?_ (by (try simp); (try omega)) _ | refine Below.alloc ?_ (by (try simp); (try omega)) _ | refine below_setRow ?_ (by (try simp); (try omega)) _ | refine pw_below_drewN ?_ _ | refine Below.drew ?_))))) (HS.out.mono (Below.mono (B := w.heap.size) (by (repeat (first | exact Below.refl _ _ | assumption | refine Below.setCell ?_ (by (try simp); (try omega)) _ | refine Below.alloc ?_ (by (try simp); (try omega)) _ | refine below_setRow ?_ (by (try simp); (try omega)) _ | refine pw_below_drewN ?_ _ | refine Below.drew ?_))) hB) (Nat.le_refl _)) Hw.out ⟨1, of, da, pt, el, co, db, pd, sg, lo⟩ HP.out _ _).mono ?_; rw [HR.out]; rintro e w'' ⟨rfl, hb⟩; refine ⟨?_, hW.trans (hb.mono hW.size)⟩; rfl)); refine hK _ ?_; clear hK K))); refine wpQuiet_nil ?_; intro w3 hb3; have hb3 : Below _ _ _ := hb3; have hB3 := below_step (w := w) (by (repeat (first | exact Below.refl _ _ | assumption | refine Below.setCell ?_ (by (try simp); (try omega)) _ | refine Below.alloc ?_ (by (try simp); (try omega)) _ | refine below_setRow ?_ (by (try simp); (try omega)) _ | refine pw_below_drewN ?_ _ | refine Below.drew ?_))) hb3; obtain ⟨hc3, hf3⟩ := bcell hb3; have hd3 := blk_below hb3; have hs3 := hB3.size; have hz3_0 : w.heap.size < w3.heap.size := (by have hq := hb3.size; (try simp at hq); omega); have hy3_0 : w.heap.size ≠ w3.heap.size := Nat.ne_of_lt hz3_0; have hk3_0 := hd3 (w.heap.size) (by (try simp); (try omega)); (try simp (disch := first | omega | (simp; omega)) only [blk_setRow_far, blk_alloc_past, blk_setCell_far, blk_drewN, blk_drew] at hk3_0)
        go_wp2
        refine bodyPost_ret (v := vObE R) ((results_blk2 _ st_Object rfl _ (w.heap.size ) rfl (by simp [go_sem, hk3_0, hk2_0, hk1_0]) (by simp [go_sem, hk3_0, hk2_0, hk1_0])).trans (by simp [go_sem, hk3_0, hk2_0, hk1_0]; try omega)) rfl ⟨ret_val (by rw [← HR.out]; simp [place_]), ?_⟩
        (repeat (first | exact Below.refl _ _ | assumption | refine Below.setCell ?_ (by (try simp); (try omega)) _ | refine Below.alloc ?_ (by (try simp); (try omega)) _ | refine below_setRow ?_ (by (try simp); (try omega)) _ | refine pw_below_drewN ?_ _ | refine Below.drew ?_))
      · go_enter Tryd.func48, Tryd.ntmps48
        go_wp2_with (first | (go_at_call 77; refine (Follow_any (B := B) (HE.out.mono (Below.mono (B := w.heap.size) (by (repeat (first | exact Below.refl _ _ | assumption | refine Below.setCell ?_ (by (try simp); (try omega)) _ | refine Below.alloc ?_ (by (try simp); (try omega)) _ | refine below_setRow ?_ (by (try simp); (try omega)) _ | refine pw_below_drewN ?_ _ | refine Below.drew ?_))) hB) (Nat.le_refl _)) (Nat.le_trans hB (Below.size (w := w) (B := w.heap.size) (by (repeat (first | exact Below.refl _ _ | assumption | refine Below.setCell ?_ (by (try simp); (try omega)) _ | refine Below.alloc ?_ (by (try simp); (try omega)) _ | refine below_setRow ?_ (by (try simp); (try omega)) _ | refine pw_below_drewN ?_ _ | refine Below.drew ?_))))) (HS.out.mono (Below.mono (B := w.heap.size) (by (repeat (first | exact Below.refl _ _ | assumption | refine Below.setCell ?_ (by (try simp); (try omega)) _ | refine Below.alloc ?_ (by (try simp); (try omega)) _ | refine below_setRow ?_ (by (try simp); (try omega)) _ | refine pw_below_drewN ?_ _ | refine Below.drew ?_))) hB) (Nat.le_refl _)) Hw.out _ _).mono ?_; rw [HFo.out]; rintro e w1 ⟨rfl, hb1⟩; have hB1 := below_step (w := w) (by (repeat (first | exact Below.refl _ _ | assumption | refine Below.setCell ?_ (by (try simp); (try omega)) _ | refine Below.alloc ?_ (by (try simp); (try omega)) _ | refine below_setRow ?_ (by (try simp); (try omega)) _ | refine pw_below_drewN ?_ _ | refine Below.drew ?_))) hb1; obtain ⟨hc1, hf1⟩ := bcell hb1; have hd1 := blk_below hb1; have hs1 := hB1.size; have hz1_0 : w.heap.size < w1.heap.size := (by have hq := hb1.size; (try simp at hq); omega); have hy1_0 : w.heap.size ≠ w1.heap.size := Nat.ne_of_lt hz1_0; have hk1_0 := hd1 (w.heap.size) (by (try simp); (try omega)); (try simp (disch := first | omega | (simp; omega)) only [blk_setRow_far, blk_alloc_past, blk_setCell_far, blk_drewN, blk_drew] at hk1_0)) | (go_at_call 78; refine (IsNull_any _ _).mono ?_; rintro e w2 ⟨rfl, hw2⟩; subst w2) |
          (go_at_call 79; refine (Decode_any (B := B) (HE.out.mono (Below.mono (B := w.heap.size) (by (repeat (first | exact Below.refl _ _ | assumption | refine Below.setCell ?_ (by (try simp); (try omega)) _ | refine Below.alloc ?_ (by (try simp); (try omega)) _ | refine below_setRow ?_ (by (try simp); (try omega)) _ | refine pw_below_drewN ?_ _ | refine Below.drew ?_))) hB) (Nat.le_refl _)) (Nat.le_trans hB (Below.size (w := w) (B := w.heap.size) (by (repeat (first | exact Below.refl _ _ | assumption | refine Below.setCell ?_ (by (try simp); (try omega)) _ | refine Below.alloc ?_ (by (try simp); (try omega)) _ | refine below_setRow ?_ (by (try simp); (try omega)) _ | refine pw_below_drewN ?_ _ | refine Below.drew ?_))))) _ HU.out).mono ?_; rw [HDo.out]; rintro e w2 ⟨rfl, hb2⟩; have hB2 := below_step (w := w) (by (repeat (first | exact Below.refl _ _ | assumption | refine Below.setCell ?_ (by (try simp); (try omega)) _ | refine Below.alloc ?_ (by (try simp); (try omega)) _ | refine below_setRow ?_ (by (try simp); (try omega)) _ | refine pw_below_drewN ?_ _ | refine Below.drew ?_))) hb2; obtain ⟨hc2, hf2⟩ := bcell hb2; have hd2 := blk_below hb2; have hs2 := hB2.size; have hz2_0 : w.heap.size < w2.heap.size := (by have hq := hb2.size; (try simp at hq); omega); have hy2_0 : w.heap.size ≠ w2.heap.size := Nat.ne_of_lt hz2_0; have hk2_0 := hd2 (w.heap.size) (by (try simp); (try omega)); (try simp (disch := first | omega | (simp; omega)) only [blk_setRow_far, blk_alloc_past, blk_setCell_far, blk_drewN, blk_drew] at hk2_0)))
        refine wp_region_splitB 14 mixed (by kernel_rfl) ?_; simp only [List.take_succ_cons, List.take_zero, List.drop_succ_cons, List.drop_zero]; (repeat ((try go_simp); refine wpQuiet_step (fun K hK => ?_); first | (refine quiet_take rfl ?_ ?_ ?_; rotate_left; (intro W hW; have hW : Below _ _ _ := hW; obtain ⟨hcW, hfW⟩ := bcell hW; have hdW := blk_below hW; have hsW := hW.size; have hBW := below_step (w := w) (by (repeat (first | exact Below.refl _ _ | assumption | refine Below.setCell ?_ (by (try simp); (try omega)) _ | refine Below.alloc ?_ (by (try simp); (try omega)) _ | refine below_setRow ?_ (by (try simp); (try omega)) _ | refine pw_below_drewN ?_ _ | refine Below.drew ?_))) hW; go_simp <;> rfl); refine hK _ ?_; clear hK K) | (refine quiet_skip rfl ?_; refine hK _ ?_; clear hK K) | (refine quiet_call rfl ?_ ?_ ?_ ?_ ?_ ?_; rotate_left; rotate_left; rotate_left; (intro W hW; have hW : Below _ _ _ := hW; obtain ⟨hcW, hfW⟩ := bcell hW; have hdW := blk_below hW; have hsW := hW.size; have hBW := below_step (w := w) (by (repeat (first | exact Below.refl _ _ | assumption | refine Below.setCell ?_ (by (try simp); (try omega)) _ | refine Below.alloc ?_ (by (try simp); (try omega)) _ | refine below_setRow ?_ (by (try simp); (try omega)) _ | refine pw_below_drewN ?_ _ | refine Below.drew ?_))) hW; go_simp; refine ⟨?_, ?_⟩ <;> rfl); (intro W hW; have hW : Below _ _ _ := hW; obtain ⟨hcW, hfW⟩ := bcell hW; have hdW := blk_below hW; have hsW := hW.size; have hBW := below_step (w := w) (by (repeat (first | exact Below.refl _ _ | assumption | refine Below.setCell ?_ (by (try simp); (try omega)) _ | refine Below.alloc ?_ (by (try simp); (try omega)) _ | refine below_setRow ?_ (by (try simp); (try omega)) _ | refine pw_below_drewN ?_ _ | refine Below.drew ?_))) hW; (refine (other_any ⟨2, of, da, pt, el, co, db, pd, sg, lo⟩ _ _).mono ?_; rintro e w'' ⟨rfl, hb⟩; refine ⟨?_, hW.trans (hb.mono hW.size)⟩; rfl)); refine hK _ ?_; clear hK K))); refine wpQuiet_nil ?_; intro w3 hb3; have hb3 : Below _ _ _ := hb3; have hB3 := below_step (w := w) (by (repeat (first | exact Below.refl _ _ | assumption | refine Below.setCell ?_ (by (try simp); (try omega)) _ | refine Below.alloc ?_ (by (try simp); (try omega)) _ | refine below_setRow ?_ (by (try simp); (try omega)) _ | refine pw_below_drewN ?_ _ | refine Below.drew ?_))) hb3; obtain ⟨hc3, hf3⟩ := bcell hb3; have hd3 := blk_below hb3; have hs3 := hB3.size; have hz3_0 : w.heap.size < w3.heap.size := (by have hq := hb3.size; (try simp at hq); omega); have hy3_0 : w.heap.size ≠ w3.heap.size := Nat.ne_of_lt hz3_0; have hk3_0 := hd3 (w.heap.size) (by (try simp); (try omega)); (try simp (disch := first | omega | (simp; omega)) only [blk_setRow_far, blk_alloc_past, blk_setCell_far, blk_drewN, blk_drew] at hk3_0)
        go_wp2
        refine bodyPost_ret (v := vObE ((Ob.zero, 4))) ((results_blk2 _ st_Object rfl _ (w.heap.size ) rfl (by simp [go_sem, hk3_0, hk2_0, hk1_0, Ob.zero]) (by simp [go_sem, hk3_0, hk2_0, hk1_0, Ob.zero])).trans (by simp [go_sem, hk3_0, hk2_0, hk1_0, Ob.zero]; try omega)) rfl ⟨ret_val (by simp [place_]), ?_⟩
        (repeat (first | exact Below.refl _ _ | assumption | refine Below.setCell ?_ (by (try simp); (try omega)) _ | refine Below.alloc ?_ (by (try simp); (try omega)) _ | refine below_setRow ?_ (by (try simp); (try omega)) _ | refine pw_below_drewN ?_ _ | refine Below.drew ?_))
      · obtain ⟨R, hR⟩ : ∃ R : Ob × Int, (if lo = 0 then (Ob.zero, 6) else (Ob.zero, 4)) = R := ⟨_, rfl⟩
        have HR := Lib.hid hR
        clear hR
        go_enter Tryd.func48, Tryd.ntmps48
        go_wp2_with (first | (go_at_call 77; refine (Follow_any (B := B) (HE.out.mono (Below.mono (B := w.heap.size) (by (repeat (first | exact Below.refl _ _ | assumption | refine Below.setCell ?_ (by (try simp); (try omega)) _ | refine Below.alloc ?_ (by (try simp); (try omega)) _ | refine below_setRow ?_ (by (try simp); (try omega)) _ | refine pw_below_drewN ?_ _ | refine Below.drew ?_))) hB) (Nat.le_refl _)) (Nat.le_trans hB (Below.size (w := w) (B := w.heap.size) (by (repeat (first | exact Below.refl _ _ | assumption | refine Below.setCell ?_ (by (try simp); (try omega)) _ | refine Below.alloc ?_ (by (try simp); (try omega)) _ | refine below_setRow ?_ (by (try simp); (try omega)) _ | refine pw_below_drewN ?_ _ | refine Below.drew ?_))))) (HS.out.mono (Below.mono (B := w.heap.size) (by (repeat (first | exact Below.refl _ _ | assumption | refine Below.setCell ?_ (by (try simp); (try omega)) _ | refine Below.alloc ?_ (by (try simp); (try omega)) _ | refine below_setRow ?_ (by (try simp); (try omega)) _ | refine pw_below_drewN ?_ _ | refine Below.drew ?_))) hB) (Nat.le_refl _)) Hw.out _ _).mono ?_; rw [HFo.out]; rintro e w1 ⟨rfl, hb1⟩; have hB1 := below_step (w := w) (by (repeat (first | exact Below.refl _ _ | assumption | refine Below.setCell ?_ (by (try simp); (try omega)) _ | refine Below.alloc ?_ (by (try simp); (try omega)) _ | refine below_setRow ?_ (by (try simp); (try omega)) _ | refine pw_below_drewN ?_ _ | refine Below.drew ?_))) hb1; obtain ⟨hc1, hf1⟩ := bcell hb1; have hd1 := blk_below hb1; have hs1 := hB1.size; have hz1_0 : w.heap.size < w1.heap.size := (by have hq := hb1.size; (try simp at hq); omega); have hy1_0 : w.heap.size ≠ w1.heap.size := Nat.ne_of_lt hz1_0; have hk1_0 := hd1 (w.heap.size) (by (try simp); (try omega)); (try simp (disch := first | omega | (simp; omega)) only [blk_setRow_far, blk_alloc_past, blk_setCell_far, blk_drewN, blk_drew] at hk1_0)) | (go_at_call 78; refine (IsNull_any _ _).mono ?_; rintro e w2 ⟨rfl, hw2⟩; subst w2) |
          (go_at_call 79; refine (Decode_any (B := B) (HE.out.mono (Below.mono (B := w.heap.size) (by (repeat (first | exact Below.refl _ _ | assumption | refine Below.setCell ?_ (by (try simp); (try omega)) _ | refine Below.alloc ?_ (by (try simp); (try omega)) _ | refine below_setRow ?_ (by (try simp); (try omega)) _ | refine pw_below_drewN ?_ _ | refine Below.drew ?_))) hB) (Nat.le_refl _)) (Nat.le_trans hB (Below.size (w := w) (B := w.heap.size) (by (repeat (first | exact Below.refl _ _ | assumption | refine Below.setCell ?_ (by (try simp); (try omega)) _ | refine Below.alloc ?_ (by (try simp); (try omega)) _ | refine below_setRow ?_ (by (try simp); (try omega)) _ | refine pw_below_drewN ?_ _ | refine Below.drew ?_))))) _ HU.out).mono ?_; rw [HDo.out]; rintro e w2 ⟨rfl, hb2⟩; have hB2 := below_step (w := w) (by (repeat (first | exact Below.refl _ _ | assumption | refine Below.setCell ?_ (by (try simp); (try omega)) _ | refine Below.alloc ?_ (by (try simp); (try omega)) _ | refine below_setRow ?_ (by (try simp); (try omega)) _ | refine pw_below_drewN ?_ _ | refine Below.drew ?_))) hb2; obtain ⟨hc2, hf2⟩ := bcell hb2; have hd2 := blk_below hb2; have hs2 := hB2.size; have hz2_0 : w.heap.size < w2.heap.size := (by have hq := hb2.size; (try simp at hq); omega); have hy2_0 : w.heap.size ≠ w2.heap.size := Nat.ne_of_lt hz2_0; have hk2_0 := hd2 (w.heap.size) (by (try simp); (try omega)); (try simp (disch := first | omega | (simp; omega)) only [blk_setRow_far, blk_alloc_past, blk_setCell_far, blk_drewN, blk_drew] at hk2_0)))
        refine wp_region_splitB 14 mixed (by kernel_rfl) ?_; simp only [List.take_succ_cons, List.take_zero, List.drop_succ_cons, List.drop_zero]; (repeat ((try go_simp); refine wpQuiet_step (fun K hK => ?_); first | (refine quiet_take rfl ?_ ?_ ?_; rotate_left; (intro W hW; have hW : Below _ _ _ := hW; obtain ⟨hcW, hfW⟩ := bcell hW; have hdW := blk_below hW; have hsW := hW.size; have hBW := below_step (w := w) (by (repeat (first | exact Below.refl _ _ | assumption | refine Below.setCell ?_ (by (try simp); (try omega)) _ | refine Below.alloc ?_ (by (try simp); (try omega)) _ | refine below_setRow ?_ (by (try simp); (try omega)) _ | refine pw_below_drewN ?_ _ | refine Below.drew ?_))) hW; go_simp <;> rfl); refine hK _ ?_; clear hK K) | (refine quiet_skip rfl ?_; refine hK _ ?_; clear hK K) | (refine quiet_call rfl ?_ ?_ ?_ ?_ ?_ ?_; rotate_left; rotate_left; rotate_left; (intro W hW; have hW : Below _ _ _ := hW; obtain ⟨hcW, hfW⟩ := bcell hW; have hdW := blk_below hW; have hsW := hW.size; have hBW := below_step (w := w) (by (repeat (first | exact Below.refl _ _ | assumption | refine Below.setCell ?_ (by (try simp); (try omega)) _ | refine Below.alloc ?_ (by (try simp); (try omega)) _ | refine below_setRow ?_ (by (try simp); (try omega)) _ | refine pw_below_drewN ?_ _ | refine Below.drew ?_))) hW; go_simp; refine ⟨?_, ?_⟩ <;> rfl); (intro W hW; have hW : Below _ _ _ := hW; obtain ⟨hcW, hfW⟩ := bcell hW; have hdW := blk_below hW; have hsW := hW.size; have hBW := below_step (w := w) (by (repeat (first | exact Below.refl _ _ | assumption | refine Below.setCell ?_ (by (try simp); (try omega)) _ | refine Below.alloc ?_ (by (try simp); (try omega)) _ | refine below_setRow ?_ (by (try simp); (try omega)) _ | refine pw_below_drewN ?_ _ | refine Below.drew ?_))) hW; (refine (other3 of da pt el co db pd sg lo _ _ HR.out).mono ?_; rintro e w'' ⟨rfl, hb⟩; refine ⟨?_, hW.trans (hb.mono hW.size)⟩; rfl)); refine hK _ ?_; clear hK K))); refine wpQuiet_nil ?_; intro w3 hb3; have hb3 : Below _ _ _ := hb3; have hB3 := below_step (w := w) (by (repeat (first | exact Below.refl _ _ | assumption | refine Below.setCell ?_ (by (try simp); (try omega)) _ | refine Below.alloc ?_ (by (try simp); (try omega)) _ | refine below_setRow ?_ (by (try simp); (try omega)) _ | refine pw_below_drewN ?_ _ | refine Below.drew ?_))) hb3; obtain ⟨hc3, hf3⟩ := bcell hb3; have hd3 := blk_below hb3; have hs3 := hB3.size; have hz3_0 : w.heap.size < w3.heap.size := (by have hq := hb3.size; (try simp at hq); omega); have hy3_0 : w.heap.size ≠ w3.heap.size := Nat.ne_of_lt hz3_0; have hk3_0 := hd3 (w.heap.size) (by (try simp); (try omega)); (try simp (disch := first | omega | (simp; omega)) only [blk_setRow_far, blk_alloc_past, blk_setCell_far, blk_drewN, blk_drew] at hk3_0)
        go_wp2
        refine bodyPost_ret (v := vObE R) ((results_blk2 _ st_Object rfl _ (w.heap.size ) rfl (by simp [go_sem, hk3_0, hk2_0, hk1_0]) (by simp [go_sem, hk3_0, hk2_0, hk1_0])).trans (by simp [go_sem, hk3_0, hk2_0, hk1_0]; try omega)) rfl ⟨ret_val (by rw [← HR.out]; simp [place_]), ?_⟩
        (repeat (first | exact Below.refl _ _ | assumption | refine Below.setCell ?_ (by (try simp); (try omega)) _ | refine Below.alloc ?_ (by (try simp); (try omega)) _ | refine below_setRow ?_ (by (try simp); (try omega)) _ | refine pw_below_drewN ?_ _ | refine Below.drew ?_))
  · have hs : object ss seg at_ = (Ob.zero, (follow ss seg at_).err) := by unfold object; dsimp only; rw [if_pos (.inl he)]
    have Hs := Lib.hid hs
    clear hs
    go_enter Tryd.func48, Tryd.ntmps48
    go_wp2_with (first | (go_at_call 77; refine (Follow_any (B := B) (HE.out.mono (Below.mono (B := w.heap.size) (by (repeat (first | exact Below.refl _ _ | assumption | refine Below.setCell ?_ (by (try simp); (try omega)) _ | refine Below.alloc ?_ (by (try simp); (try omega)) _ | refine below_setRow ?_ (by (try simp); (try omega)) _ | refine pw_below_drewN ?_ _ | refine Below.drew ?_))) hB) (Nat.le_refl _)) (Nat.le_trans hB (Below.size (w := w) (B := w.heap.size) (by (repeat (first | exact Below.refl _ _ | assumption | refine Below.setCell ?_ (by (try simp); (try omega)) _ | refine Below.alloc ?_ (by (try simp); (try omega)) _ | refine below_setRow ?_ (by (try simp); (try omega)) _ | refine pw_below_drewN ?_ _ | refine Below.drew ?_))))) (HS.out.mono (Below.mono (B := w.heap.size) (by (repeat (first | exact Below.refl _ _ | assumption | refine Below.setCell ?_ (by (try simp); (try omega)) _ | refine Below.alloc ?_ (by (try simp); (try omega)) _ | refine below_setRow ?_ (by (try simp); (try omega)) _ | refine pw_below_drewN ?_ _ | refine Below.drew ?_))) hB) (Nat.le_refl _)) Hw.out _ _).mono ?_; rintro e w1 ⟨rfl, hb1⟩; have hB1 := below_step (w := w) (by (repeat (first | exact Below.refl _ _ | assumption | refine Below.setCell ?_ (by (try simp); (try omega)) _ | refine Below.alloc ?_ (by (try simp); (try omega)) _ | refine below_setRow ?_ (by (try simp); (try omega)) _ | refine pw_below_drewN ?_ _ | refine Below.drew ?_))) hb1; obtain ⟨hc1, hf1⟩ := bcell hb1; have hd1 := blk_below hb1; have hs1 := hB1.size; have hz1_0 : w.heap.size < w1.heap.size := (by have hq := hb1.size; (try simp at hq); omega); have hy1_0 : w.heap.size ≠ w1.heap.size := Nat.ne_of_lt hz1_0; have hk1_0 := hd1 (w.heap.size) (by (try simp); (try omega)); (try simp (disch := first | omega | (simp; omega)) only [blk_setRow_far, blk_alloc_past, blk_setCell_far, blk_drewN, blk_drew] at hk1_0)))
    refine bodyPost_ret (v := vObE (Ob.zero, (follow ss seg at_).err)) ((results_blk2 _ st_Object rfl _ (w.heap.size ) rfl (by simp [go_sem, Ob.zero, hd1, hz1_0, hy1_0, he]) (by simp [go_sem, Ob.zero, hd1, hz1_0, hy1_0, he])).trans (by simp [go_sem, Ob.zero, hd1, hz1_0, hy1_0, he]; try omega)) rfl ⟨by rw [Hs.out], ?_⟩
    (repeat (first | exact Below.refl _ _ | assumption | refine Below.setCell ?_ (by (try simp); (try omega)) _ | refine Below.alloc ?_ (by (try simp); (try omega)) _ | refine below_setRow ?_ (by (try simp); (try omega)) _ | refine pw_below_drewN ?_ _ | refine Below.drew ?_))
end Go.Proofs.YtelghkgnkncnoaaDoor
